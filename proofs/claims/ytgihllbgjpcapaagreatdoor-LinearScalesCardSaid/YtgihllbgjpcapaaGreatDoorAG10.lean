import Derived.Test.YtgihllbgjpcapaaGreatDoorAG9
set_option maxHeartbeats 8000000
set_option maxRecDepth 100000
set_option linter.unusedVariables false
namespace Go.Proofs.YtgihllbgjpcapaaGreatDoor.PA
set_option linter.unusedVariables false
set_option linter.unusedSimpArgs false
open Go.RowKit Go.Shelf Go.Proofs.WWords Go.Proofs.WLast Go.Proofs.WMore
theorem refFlat_ok (n : Nat) (N : Int) (c : ByteArray) (w : World) (hN : Z0 (N = n)) (hn : n ≤ 1000) :
  Calls Tryz.prog 66 #[.int .i64 N, .string c] w fun e w' => ∃ X d, e = .returned (.agg #[.slice X n d, .string c]) ∧ Kd.R Kd.string 23 w' w.heap.size (fun _ => True) (.slice X n d) (zeros n) ∧ Below w.heap.size w w' := by
 obtain rfl := hN.out
 clear hN
 have hu := Tryz.underlying25
 have ht := Tryz.underlying22
 go_enter Tryz.func66, Tryz.ntmps66
 go_upto_region 2 with (fail)
 refine al2 ?_
 intro W hb B0 B1
 replace hb := Z0.mk hb
 go_wp2
 go_loopw [6] (fun i wr => ∃ (j : Nat) (X : Option Addr) (d : Nat), j ≤ n ∧ i = .int .i64 j ∧ Z0 (Kd.R Kd.string 23 wr w.heap.size (fun _ => True) (.slice X j d) (zeros j)) ∧ Z0 (wr.heap[w.heap.size]? = some (.cells #[.slice none 0 0, .string ⟨#[]⟩] 25 (0, 0))) ∧ Z0 (wr.heap[w.heap.size + 1]? = some (.cells #[.slice X j d, .string c] 25 (0, 0))) ∧ Z0 (Below w.heap.size w wr))
  (fun i _ => n - (Go.RowKit.intOf i).toNat)
 case atStart => exact ⟨0, none, 0, by omega, rfl, ⟨Kd.R_nil _ _ _ _ _⟩, B0, B1, hb⟩
 clear B0 B1 hb
 obtain ⟨j, X, d, hj, rfl, HO, B0, B1, HB⟩ := hrel
 obtain ⟨q0, q1, f0, f1⟩ := b2 B1
 rcases Nat.lt_or_ge j n with h4 | h4
 · have c4 : decide ((j : Int) < n) = true := decide_eq_true (by omega)
   go_wp2_with ((with_reducible refine gate_builtin (b := .append) rfl ?_); refine apL (⟨#[48]⟩ : ByteArray) HO (below_size HB.out) (by simp; omega) rfl ht infoRat ?_; intro v1 w1 HO1 hb hg; replace B0 := Z0.mk ((hg.block _ (blk_lt B0.out) (Kd.R_ne HO.out B0.out (by decide))).trans B0.out); replace B1 := Z0.mk ((hg.block _ (blk_lt B1.out) (Kd.R_ne HO.out B1.out (by decide))).trans B1.out); replace HB := Z0.mk (HB.out.trans hb); obtain ⟨X1, d1, rfl, HO2⟩ := R_cut (m := j + 1) HO1 (by simp); clear q0 q1 f0 f1 HO HO1 hb hg; obtain ⟨q0, q1, f0, f1⟩ := b2 B1)
   exact ⟨⟨j + 1, X1, d1, by omega, by simp, ⟨Rstr_put1 (by rw [show zeros (j + 1) = zeros j ++ [⟨#[48]⟩] from List.replicate_succ']; exact HO2.out) B1.out _⟩, ⟨blk_far (p := ⟨w.heap.size + 1, 0, none⟩) B0.out (by show w.heap.size ≠ w.heap.size + 1; omega) _⟩, ⟨blk_put B1.out 0 _ rfl⟩, ⟨below_set HB.out (Nat.le_succ _)⟩⟩, by simp [Go.RowKit.intOf]; omega⟩
 obtain rfl : j = n := by omega
 obtain ⟨r0, r1, g0, g1⟩ := b2 B0
 go_wp2
 refine bodyPost_ret (results_cell_row rfl _ _ w.heap.size 25 #[.slice X j d, .string c] (0, 0) _ rfl (blk_put (blk_put B0.out 0 _ rfl) 1 _ rfl) hu rfl (by kernel_rfl)) rfl ?_
 exact ⟨X, d, rfl, Rstr_put HO.out B0.out _ _, below_set (below_set HB.out (Nat.le_refl _)) (Nat.le_refl _)⟩
instance lz_Flat : Ctr 66 (type_of% @refFlat_ok) := ⟨@refFlat_ok, _, Tryz.func66, by kernel_rfl, rfl⟩
theorem refOne_ok (n i : Nat) (w : World) (hi : i < n) (hn : n ≤ 1000) :
  Calls Tryz.prog 67 #[.int .i64 n, .int .i64 i] w fun e w' => ∃ X d, e = .returned (.agg #[.slice X n d, .string ⟨#[48]⟩]) ∧ Kd.R Kd.string 23 w' w.heap.size (fun _ => True) (.slice X n d) ((zeros n).set i ⟨#[49]⟩) ∧ Below w.heap.size w w' := by
 have HB := Z0.mk (Below.refl w.heap.size w)
 have hu := Tryz.underlying25
 have ht := Tryz.underlying22
 go_enter Tryz.func67, Tryz.ntmps67
 go_upto_region 1 with (fail)
 refine al1 ?_
 intro W hb B0
 replace HB := fB HB hb
 obtain ⟨r0, r1, f0, f1⟩ := b2 B0
 clear hb
 go_upto_region 2 with ((with_reducible refine gc_ 66 rfl ?_); refine gL 7 Tryz.func66 (refFlat_ok n n ⟨#[48]⟩ _ ⟨rfl⟩ hn) ?_; rintro _ w2 ⟨X, d, rfl, HO, hb⟩; refine ⟨_, rfl, ?_⟩; replace HO := Z0.mk HO; have hlo2 := Z0.mk (below_size HB.out); have hl2 := Z0.mk (blk_lt B0.out); replace B0 := fk B0 hb; replace HB := fB HB hb; clear hb r0 r1 f0 f1)
 refine al1 ?_
 intro W3 hb B1
 replace B0 := fk B0 hb
 replace HB := fB HB hb
 have hl3 := Z0.mk (below_size hb)
 replace HO := Z0.mk (Kd.R_below HO.out hb)
 clear hb
 obtain ⟨g, rfl, k0, k1, k2, k3⟩ := ownS HO (i : Int) (by omega) (by omega)
 obtain ⟨r0, r1, -, -⟩ := b2 B1
 rw [Int.toNat_natCast] at k0 k1
 have ka1 : (Addr.mk g 0 none).add i = ⟨g, i, none⟩ := add_plain g i
 go_wp2_with ((with_reducible refine gate_store rfl ?_); (with_reducible refine gs_ 11 rfl ?_); refine stS i (⟨#[49]⟩ : ByteArray) HO rfl ?_; intro w4 HO4 hg hb; replace B0 := Z0.mk ((hg.block _ (blk_lt B0.out) (Kd.R_ne HO.out B0.out (by decide))).trans B0.out); replace B1 := Z0.mk ((hg.block _ (blk_lt B1.out) (Kd.R_ne HO.out B1.out (by decide))).trans B1.out); replace HB := Z0.mk (HB.out.trans (hb.mono hlo2.out)); replace HO := HO4; clear HO4 hg hb k0 k1 k2 k3 r0 r1; obtain ⟨r0, r1, -, -⟩ := b2 B1; obtain ⟨q0, q1, f0, f1⟩ := b2 B0)
 refine bodyPost_ret (results_cell_row rfl _ _ w.heap.size 25 #[.slice (some ⟨g, 0, none⟩) n d, .string ⟨#[48]⟩] (0, 0) _ rfl (blk_put (blk_put B0.out 0 _ rfl) 1 _ rfl) hu rfl (by kernel_rfl)) rfl ?_
 exact ⟨some ⟨g, 0, none⟩, d, rfl, Kd.R_lower (Rstr_put HO.out B0.out _ _) hlo2.out, below_set (below_set HB.out (Nat.le_refl _)) (Nat.le_refl _)⟩
instance lz_One : Ctr 67 (type_of% @refOne_ok) := ⟨@refOne_ok, _, Tryz.func67, by kernel_rfl, rfl⟩
theorem refConstant_ok (n : Int) (c : ByteArray) (w : World) (hO : c.size ≤ 10000000000) :
  Calls Tryz.prog 31 #[.int .i64 n, .string c] w (LinR w w.heap.size (constS n c)) := by
 have HB := Z0.mk (Below.refl w.heap.size w)
 have hu := Tryz.underlying25
 obtain ⟨y, hy⟩ : ∃ y : Int, Z0 (numC c = y) := ⟨_, ⟨rfl⟩⟩
 go_enter Tryz.func31, Tryz.ntmps31
 go_upto_region 1 with (fail)
 refine al1 ?_
 intro W hb B0
 replace HB := fB HB hb
 obtain ⟨r0, r1, f0, f1⟩ := b2 B0
 clear hb
 by_cases h1 : n < 0
 · have hs : Z0 (constS n c = ([], ⟨#[]⟩, 2)) := ⟨if_pos (.inl h1)⟩
   have c1 : decide (n < 0) = true := decide_eq_true h1
   clear h1
   go_wp2
   refine bodyPost_ret (results_ct rfl _ _ w.heap.size 25 #[.slice none 0 0, .string ⟨#[]⟩] (0, 0) _ rfl (blk_put (blk_put B0.out 0 _ rfl) 1 _ rfl) hu rfl (by kernel_rfl)) rfl ?_
   rw [hs.out]
   exact ⟨none, 0, rfl, Nat.le_refl _, C_nilS, Ab.none, below_set (below_set HB.out (by omega)) (by omega)⟩
 have c1 : decide (n < 0) = false := decide_eq_false h1
 by_cases h2 : 32 < n
 · have hs : Z0 (constS n c = ([], ⟨#[]⟩, 2)) := ⟨if_pos (.inr h2)⟩
   have c2 : decide (32 < n) = true := decide_eq_true h2
   clear h1
   go_wp2
   refine bodyPost_ret (results_ct rfl _ _ w.heap.size 25 #[.slice none 0 0, .string ⟨#[]⟩] (0, 0) _ rfl (blk_put (blk_put B0.out 0 _ rfl) 1 _ rfl) hu rfl (by kernel_rfl)) rfl ?_
   rw [hs.out]
   exact ⟨none, 0, rfl, Nat.le_refl _, C_nilS, Ab.none, below_set (below_set HB.out (by omega)) (by omega)⟩
 have c2 : decide (32 < n) = false := decide_eq_false h2
 by_cases h3 : y = 0
 · obtain ⟨N, rfl⟩ := Int.eq_ofNat_of_zero_le (by omega : 0 ≤ n)
   have hs : constS N c = (zeros N, c, 0) := by unfold constS; rw [if_neg (by omega), hy.out, if_pos h3]; rfl
   replace hs := Z0.mk hs
   subst h3
   clear h1
   go_wp2_with (first
    | ((with_reducible refine gc_ 66 rfl ?_); refine gL 22 Tryz.func66 (refFlat_ok N N c _ ⟨rfl⟩ (by omega)) ?_; rintro _ w2 ⟨X, d, rfl, HO, hb⟩; refine ⟨_, rfl, ?_⟩; replace HO := Z0.mk HO; have hl2 := Z0.mk (blk_lt B0.out); replace B0 := fk B0 hb; replace HB := fB HB hb; clear hb r0 r1 f0 f1; obtain ⟨r0, r1, f0, f1⟩ := b2 B0)
    | (refine cG rfl ?_; intro w' hb; replace B0 := fk B0 hb; replace HB := fB HB hb; clear hb r0 r1 f0 f1; obtain ⟨r0, r1, f0, f1⟩ := b2 B0))
   refine bodyPost_ret (results_ct rfl _ _ w.heap.size 25 #[.slice X N d, .string c] (0, 0) _ rfl (blk_put (blk_put B0.out 0 _ rfl) 1 _ rfl) hu rfl (by kernel_rfl)) rfl ?_
   rw [hs.out]
   have C := Kd.R_reads' (Rstr_put HO.out B0.out (.slice X N d) (.string c))
   exact ⟨X, d, by simp, by simpa using C.2.1, C.2.2, (Ab.of_R HO.out).mono (by have := hl2.out; omega), below_set (below_set HB.out (Nat.le_refl _)) (Nat.le_refl _)⟩
 · have hs : Z0 (constS n c = ([], ⟨#[]⟩, y)) := ⟨by unfold constS; rw [if_neg (by omega), hy.out, if_neg h3]⟩
   have h0' : (y != 0) = true := bne_iff_ne.mpr h3
   clear h1
   go_wp2_with (refine cG rfl ?_; intro w' hb; replace B0 := fk B0 hb; replace HB := fB HB hb; clear hb r0 r1 f0 f1; obtain ⟨r0, r1, f0, f1⟩ := b2 B0)
   refine bodyPost_ret (results_ct rfl _ _ w.heap.size 25 #[.slice none 0 0, .string ⟨#[]⟩] (0, 0) _ rfl (blk_put (blk_put B0.out 0 _ rfl) 1 _ rfl) hu rfl (by kernel_rfl)) rfl ?_
   rw [hs.out]
   exact ⟨none, 0, rfl, Nat.le_refl _, C_nilS, Ab.none, below_set (below_set HB.out (by omega)) (by omega)⟩
instance lz_Constant : Ctr 31 (type_of% @refConstant_ok) := ⟨@refConstant_ok, _, Tryz.func31, by kernel_rfl, rfl⟩
theorem refVariable_ok (n i : Int) (w : World) :
  Calls Tryz.prog 33 #[.int .i64 n, .int .i64 i] w (LinR w w.heap.size (varS n i)) := by
 have HB := Z0.mk (Below.refl w.heap.size w)
 have hu := Tryz.underlying25
 go_enter Tryz.func33, Tryz.ntmps33
 go_upto_region 1 with (fail)
 refine al1 ?_
 intro W hb B0
 replace HB := fB HB hb
 obtain ⟨r0, r1, f0, f1⟩ := b2 B0
 clear hb
 by_cases h1 : n < 0
 · have hs : Z0 (varS n i = ([], ⟨#[]⟩, 2)) := ⟨if_pos (.inl h1)⟩
   have c1 : decide (n < 0) = true := decide_eq_true h1
   clear h1
   go_wp2
   refine bodyPost_ret (results_ct rfl _ _ w.heap.size 25 #[.slice none 0 0, .string ⟨#[]⟩] (0, 0) _ rfl (blk_put (blk_put B0.out 0 _ rfl) 1 _ rfl) hu rfl (by kernel_rfl)) rfl ?_
   rw [hs.out]
   exact ⟨none, 0, rfl, Nat.le_refl _, C_nilS, Ab.none, below_set (below_set HB.out (by omega)) (by omega)⟩
 have c1 : decide (n < 0) = false := decide_eq_false h1
 by_cases h2 : 32 < n
 · have hs : Z0 (varS n i = ([], ⟨#[]⟩, 2)) := ⟨if_pos (.inr h2)⟩
   have c2 : decide (32 < n) = true := decide_eq_true h2
   clear h1
   go_wp2
   refine bodyPost_ret (results_ct rfl _ _ w.heap.size 25 #[.slice none 0 0, .string ⟨#[]⟩] (0, 0) _ rfl (blk_put (blk_put B0.out 0 _ rfl) 1 _ rfl) hu rfl (by kernel_rfl)) rfl ?_
   rw [hs.out]
   exact ⟨none, 0, rfl, Nat.le_refl _, C_nilS, Ab.none, below_set (below_set HB.out (by omega)) (by omega)⟩
 have c2 : decide (32 < n) = false := decide_eq_false h2
 by_cases h3 : i < 0
 · have hs : Z0 (varS n i = ([], ⟨#[]⟩, 6)) := ⟨by unfold varS; rw [if_neg (by omega), if_pos (.inl h3)]⟩
   have c3 : decide (i < 0) = true := decide_eq_true h3
   clear h1
   go_wp2
   refine bodyPost_ret (results_ct rfl _ _ w.heap.size 25 #[.slice none 0 0, .string ⟨#[]⟩] (0, 0) _ rfl (blk_put (blk_put B0.out 0 _ rfl) 1 _ rfl) hu rfl (by kernel_rfl)) rfl ?_
   rw [hs.out]
   exact ⟨none, 0, rfl, Nat.le_refl _, C_nilS, Ab.none, below_set (below_set HB.out (by omega)) (by omega)⟩
 have c3 : decide (i < 0) = false := decide_eq_false h3
 by_cases h4 : n ≤ i
 · have hs : Z0 (varS n i = ([], ⟨#[]⟩, 6)) := ⟨by unfold varS; rw [if_neg (by omega), if_pos (.inr h4)]⟩
   have c4 : decide (n ≤ i) = true := decide_eq_true h4
   clear h1
   go_wp2
   refine bodyPost_ret (results_ct rfl _ _ w.heap.size 25 #[.slice none 0 0, .string ⟨#[]⟩] (0, 0) _ rfl (blk_put (blk_put B0.out 0 _ rfl) 1 _ rfl) hu rfl (by kernel_rfl)) rfl ?_
   rw [hs.out]
   exact ⟨none, 0, rfl, Nat.le_refl _, C_nilS, Ab.none, below_set (below_set HB.out (by omega)) (by omega)⟩
 have c4 : decide (n ≤ i) = false := decide_eq_false h4
 obtain ⟨N, rfl⟩ := Int.eq_ofNat_of_zero_le (by omega : 0 ≤ n)
 obtain ⟨I, rfl⟩ := Int.eq_ofNat_of_zero_le (by omega : 0 ≤ i)
 have hs : varS N I = ((zeros N).set I ⟨#[49]⟩, ⟨#[48]⟩, 0) := by unfold varS; rw [if_neg (by omega), if_neg (by omega)]; rfl
 replace hs := Z0.mk hs
 have hIN : I < N := by omega
 have hN : N ≤ 1000 := by omega
 clear h1 h2 h3 h4
 go_wp2_with ((with_reducible refine gc_ 67 rfl ?_); refine gL 23 Tryz.func67 (refOne_ok N I _ hIN hN) ?_; rintro _ w2 ⟨X, d, rfl, HO, hb⟩; refine ⟨_, rfl, ?_⟩; replace HO := Z0.mk HO; have hl2 := Z0.mk (blk_lt B0.out); replace B0 := fk B0 hb; replace HB := fB HB hb; clear hb r0 r1 f0 f1; obtain ⟨r0, r1, f0, f1⟩ := b2 B0)
 refine bodyPost_ret (results_ct rfl _ _ w.heap.size 25 #[.slice X N d, .string ⟨#[48]⟩] (0, 0) _ rfl (blk_put (blk_put B0.out 0 _ rfl) 1 _ rfl) hu rfl (by kernel_rfl)) rfl ?_
 rw [hs.out]
 have C := Kd.R_reads' (Rstr_put HO.out B0.out (.slice X N d) (.string ⟨#[48]⟩))
 exact ⟨X, d, by simp, by simpa using C.2.1, C.2.2, (Ab.of_R HO.out).mono (by have := hl2.out; omega), below_set (below_set HB.out (Nat.le_refl _)) (Nat.le_refl _)⟩
instance lz_Variable : Ctr 33 (type_of% @refVariable_ok) := ⟨@refVariable_ok, _, Tryz.func33, by kernel_rfl, rfl⟩
theorem refLTimes_ok (A : Option Addr) (n c : Nat) (qs : List Rat) (q r : Rat) (w : World) (hC : Z0 (Kd.string.C w A n (qs.map Sv.rtxt))) (hn : n = qs.length) (hm : n ≤ 1000) (hq : ∀ p ∈ qs ++ [q], ndR p ≤ 50000) (hr : ndR r ≤ 50000) :
  Calls Tryz.prog 50 #[.agg #[.slice A n c, .string (Sv.rtxt q)], .string (Sv.rtxt r)] w fun e w' => ∃ X d, e = .returned (.agg #[.slice X n d, .string (Sv.rtxt (q * r))]) ∧ Kd.R Kd.string 23 w' w.heap.size (fun _ => True) (.slice X n d) ((qs.map (· * r)).map Sv.rtxt) ∧ Below w.heap.size w w' := by
 have HB := Z0.mk (Below.refl w.heap.size w)
 have hu := Tryz.underlying25
 have ht := Tryz.underlying22
 have hCw := hC
 replace hn := Z0.mk hn
 have hq1 : ndR q ≤ 50000 := hq q (by simp)
 go_enter Tryz.func50, Tryz.ntmps50
 go_upto_region 1 with (fail)
 refine al2 ?_
 intro W hb B0 B1
 replace HB := fB HB hb
 obtain ⟨p0, p1, -, -⟩ := b2 B0
 clear hb
 go_upto_region 2 with ((with_reducible refine gc_ 77 rfl ?_); refine gL 10 Tryz.func77 (refTimes_ok q r _ (by omega) (by omega)) ?_; rintro _ w2 ⟨rfl, hb⟩; refine ⟨_, rfl, ?_⟩; replace B0 := fk B0 hb; replace B1 := fk B1 hb; replace HB := fB HB hb; clear hb p0 p1)
 have hl2 := Z0.mk (blk_lt B1.out)
 refine al1 ?_
 intro W3 hb B2
 have hb2 := Z0.mk (below_size hb)
 have hg2 := Z0.mk (blk_lt B2.out)
 replace B0 := fk B0 hb
 replace B1 := fk B1 hb
 replace HB := fB HB hb
 clear hb
 generalize w2.heap.size = g2 at *
 have z2 : w.heap.size + 1 < g2 := hl2.out
 go_wp2
 go_loopw [6] (fun i wr => ∃ (j : Nat) (X : Option Addr) (d : Nat), j ≤ n ∧ i = .int .i64 j ∧ Z0 (Kd.R Kd.string 23 wr w.heap.size (fun _ => True) (.slice X j d) (((qs.take j).map (· * r)).map Sv.rtxt)) ∧ Z0 (wr.heap[w.heap.size]? = some (.cells #[.slice A n c, .string (Sv.rtxt q)] 25 (0, 0))) ∧ Z0 (wr.heap[w.heap.size + 1]? = some (.cells #[.slice none 0 0, .string ⟨#[]⟩] 25 (0, 0))) ∧ Z0 (wr.heap[g2]? = some (.cells #[.slice X j d, .string (Sv.rtxt (q * r))] 25 (0, 0))) ∧ Z0 (Below w.heap.size w wr))
  (fun i _ => n - (Go.RowKit.intOf i).toNat)
 case atStart => exact ⟨0, none, 0, by omega, rfl, ⟨Kd.R_nil _ _ _ _ _⟩, B0, B1, B2, HB⟩
 clear B0 B1 B2 HB hC
 obtain ⟨j, X, d, hj, rfl, HO, B0, B1, B2, HB⟩ := hrel
 obtain ⟨p0, p1, -, -⟩ := b2 B0
 obtain ⟨q0, q1, f0, f1⟩ := b2 B2
 rcases Nat.lt_or_ge j n with h4 | h4
 · have c4 : decide ((j : Int) < n) = true := decide_eq_true (by omega)
   have hjq : j < qs.length := by have := hn.out; omega
   obtain ⟨p, hp⟩ : ∃ p, qs[j] = p := ⟨_, rfl⟩
   have hpd : ndR p ≤ 50000 := hq p (by rw [← hp]; exact List.mem_append_left _ (List.getElem_mem _))
   obtain ⟨ad, rfl, hxx, x1, x2⟩ := asI (Kd.C_below hCw.out HB.out) (j : Int) (by omega) (by omega)
   rw [Int.toNat_natCast, show rdOf ByteArray.empty (qs.map Sv.rtxt) (j : Int) = Sv.rtxt p by rw [← hp]; simp [rdOf, hjq]] at hxx
   go_wp2
   have hd := (Below.refl wr.heap.size wr).drew
   refine start_ (n := 13) (S := fun w' => w'.cell? ⟨g2, 0, none⟩ = some (.slice X j d) ∧ w'.cell? ⟨w.heap.size, 0, none⟩ = some (.slice (some ad) n c) ∧ w'.cell? (ad.add j) = some (.string (Sv.rtxt p))) (ds := [12]) _ (by kernel_rfl) rfl rfl ⟨q0, p0, hxx⟩ (fun hHeld => ?_)
   refine tp 0 19 ?_
   refine tk 1 20 (by exact hHeld) ?_
   refine tp 2 21 ?_
   refine tk 3 22 (by exact hHeld) ?_
   refine tp 4 23 ?_
   refine tp 5 24 ?_
   refine tk 6 25 (by exact hHeld) ?_
   refine tp 7 26 ?_
   have HBd := Z0.mk (below_step HB.out hd)
   have HOd := Z0.mk (Kd.R_below HO.out hd)
   have B0d := Z0.mk (blk_below B0.out hd)
   have B1d := Z0.mk (blk_below B1.out hd)
   have B2d := Z0.mk (blk_below B2.out hd)
   clear B0 B1 B2 HB HO p0 p1 q0 q1 f0 f1 hHeld hxx hd
   generalize wr.drew = W4 at *
   obtain ⟨S_, hS_⟩ : ∃ S_ : World → Prop, S_ = (fun w' => w'.cell? ⟨g2, 0, none⟩ = some (.slice X j d) ∧ w'.cell? ⟨w.heap.size, 0, none⟩ = some (.slice (some ad) n c) ∧ w'.cell? (ad.add j) = some (.string (Sv.rtxt p))) := ⟨_, rfl⟩
   have hSS : ∀ u, Z0 (Below w.heap.size w u) → Z0 (u.heap[w.heap.size]? = some (.cells #[.slice (some ad) n c, .string (Sv.rtxt q)] 25 (0, 0))) → Z0 (u.heap[g2]? = some (.cells #[.slice X j d, .string (Sv.rtxt (q * r))] 25 (0, 0))) → S_ u := fun u h1 h2 h3 => by
    rw [hS_]
    obtain ⟨ad', e', hx', -, -⟩ := asI (Kd.C_below hCw.out h1.out) (j : Int) (by omega) (by omega)
    obtain rfl : ad = ad' := by injection e'
    rw [Int.toNat_natCast, show rdOf ByteArray.empty (qs.map Sv.rtxt) (j : Int) = Sv.rtxt p by rw [← hp]; simp [rdOf, hjq]] at hx'
    exact ⟨(b2 h3).1, (b2 h2).1, hx'⟩
   rw [← hS_]
   clear hS_
   refine cl 8 27 ⟨_, Tryz.func77, by kernel_rfl, rfl⟩ (refTimes_ok p r W4 (by omega) (by omega)) ?_
   rintro _ W5 ⟨rfl, hb⟩
   replace HBd := Z0.mk (below_step HBd.out hb)
   replace HOd := Z0.mk (Kd.R_below HOd.out hb)
   replace B0d := Z0.mk (blk_below B0d.out hb)
   replace B1d := Z0.mk (blk_below B1d.out hb)
   replace B2d := Z0.mk (blk_below B2d.out hb)
   refine ⟨_, rfl, hSS _ HBd B0d B2d, _, (by (simp only [Act.put, List.setIfInBounds_toArray, List.set_cons_zero, List.set_cons_succ]); rfl), ?_⟩
   clear hb
   refine ev1 9 28 (v := .slice (some ⟨W5.heap.size, 0, none⟩) 1 1) (w1 := W5.alloc (.cells #[.string (Sv.rtxt (p * r))] 23)) ?hr ?_
   case hr => go_simp; try rfl
   have hb := below_alloc (Below.refl W5.heap.size W5) (.cells #[.string (Sv.rtxt (p * r))] 23)
   refine ⟨hSS _ ⟨below_step HBd.out hb⟩ ⟨blk_below B0d.out hb⟩ ⟨blk_below B2d.out hb⟩, ?_⟩
   clear hb
   simp only [Act.put, List.setIfInBounds_toArray, List.set_cons_zero, List.set_cons_succ]
   refine lst 10 ?_
   refine apL (N := some 29) (Sv.rtxt (p * r)) HOd (below_size HBd.out) (by simp; omega) rfl ht infoRat ?_
   intro v1 W6 HO1 hb hg
   replace HBd := Z0.mk (HBd.out.trans hb)
   replace B0d := Z0.mk ((hg.block _ (blk_lt B0d.out) (Kd.R_ne HOd.out B0d.out (by decide))).trans B0d.out)
   replace B1d := Z0.mk ((hg.block _ (blk_lt B1d.out) (Kd.R_ne HOd.out B1d.out (by decide))).trans B1d.out)
   replace B2d := Z0.mk ((hg.block _ (blk_lt B2d.out) (Kd.R_ne HOd.out B2d.out (by decide))).trans B2d.out)
   obtain ⟨X1, d1, rfl, HO2⟩ := R_cut (m := j + 1) HO1 (by simp; omega)
   refine wpList_nil ?_
   refine ⟨fun _ => hSS _ HBd B0d B2d, ?_⟩
   clear HOd HO1 hb hg
   simp only [Act.put, List.setIfInBounds_toArray, List.set_cons_zero, List.set_cons_succ]
   obtain ⟨q0, q1, f0, f1⟩ := b2 B2d
   refine tp 11 30 ?_
   refine stL 12 ?_
   refine done_ (by kernel_rfl) ?_
   go_wp2
   have et : ((qs.take (j + 1)).map (· * r)).map Sv.rtxt = ((qs.take j).map (· * r)).map Sv.rtxt ++ [Sv.rtxt (p * r)] := by rw [take_succ_get qs j hjq, List.map_append, List.map_append, hp]; rfl
   exact ⟨⟨j + 1, X1, d1, by omega, by simp, ⟨Rstr_put1 (by rw [et]; exact HO2.out) B2d.out _⟩, ⟨blk_far (p := ⟨g2, 0, none⟩) B0d.out (by show w.heap.size ≠ g2; omega) _⟩, ⟨blk_far (p := ⟨g2, 0, none⟩) B1d.out (by show w.heap.size + 1 ≠ g2; omega) _⟩, ⟨blk_put B2d.out 0 _ rfl⟩, ⟨below_set HBd.out (by omega)⟩⟩, by simp [Go.RowKit.intOf]; omega⟩
 obtain rfl : j = n := by omega
 obtain ⟨r0, r1, g0, g1⟩ := b2 B1
 have c4 : decide ((j : Int) < j) = false := decide_eq_false (by omega)
 go_wp2
 refine bodyPost_ret (results_cell_row rfl _ _ (w.heap.size + 1) 25 #[.slice X j d, .string (Sv.rtxt (q * r))] (0, 0) _ rfl (blk_put (blk_put B1.out 0 _ rfl) 1 _ rfl) hu rfl (by kernel_rfl)) rfl ?_
 rw [List.take_of_length_le (by rw [hn.out]; exact Nat.le_refl _)] at HO
 exact ⟨X, d, rfl, Rstr_put HO.out B1.out _ _, below_set (below_set HB.out (by omega)) (by omega)⟩
theorem refLPlus_ok (A B : Option Addr) (n c c' : Nat) (qs rs : List Rat) (q r : Rat) (w : World) (hC : Z0 (Kd.string.C w A n (qs.map Sv.rtxt))) (hC' : Z0 (Kd.string.C w B n (rs.map Sv.rtxt))) (hn : n = qs.length) (hn' : n = rs.length) (hm : n ≤ 1000) (hq : ∀ p ∈ qs ++ [q], ndR p ≤ 50000) (hr : ∀ p ∈ rs ++ [r], ndR p ≤ 50000) :
  Calls Tryz.prog 56 #[.agg #[.slice A n c, .string (Sv.rtxt q)], .agg #[.slice B n c', .string (Sv.rtxt r)]] w fun e w' => ∃ X d, e = .returned (.agg #[.slice X n d, .string (Sv.rtxt (q + r))]) ∧ Kd.R Kd.string 23 w' w.heap.size (fun _ => True) (.slice X n d) ((List.zipWith (· + ·) qs rs).map Sv.rtxt) ∧ Below w.heap.size w w' := by
 have HB := Z0.mk (Below.refl w.heap.size w)
 have hu := Tryz.underlying25
 have ht := Tryz.underlying22
 have hCw := hC
 have hCw' := hC'
 replace hn := Z0.mk hn
 replace hn' := Z0.mk hn'
 have hq1 : ndR q ≤ 50000 := hq q (by simp)
 have hr1 : ndR r ≤ 50000 := hr r (by simp)
 go_enter Tryz.func56, Tryz.ntmps56
 go_upto_region 1 with (fail)
 refine al3 ?_
 intro W hb B0 B3 B1
 replace HB := fB HB hb
 obtain ⟨p0, p1, -, -⟩ := b2 B0
 obtain ⟨s0, s1, -, -⟩ := b2 B3
 clear hb
 go_upto_region 2 with ((with_reducible refine gc_ 73 rfl ?_); refine gL 11 Tryz.func73 (refPlus_ok q r _ (by omega) (by omega)) ?_; rintro _ w2 ⟨rfl, hb⟩; refine ⟨_, rfl, ?_⟩; replace B0 := fk B0 hb; replace B3 := fk B3 hb; replace B1 := fk B1 hb; replace HB := fB HB hb; clear hb p0 p1 s0 s1)
 have hl2 := Z0.mk (blk_lt B1.out)
 refine al1 ?_
 intro W3 hb B2
 replace B0 := fk B0 hb
 replace B3 := fk B3 hb
 replace B1 := fk B1 hb
 replace HB := fB HB hb
 clear hb
 generalize w2.heap.size = g2 at *
 have z2 : w.heap.size + 1 + 1 < g2 := hl2.out
 go_wp2
 go_loopw [6] (fun i wr => ∃ (j : Nat) (X : Option Addr) (d : Nat), j ≤ n ∧ i = .int .i64 j ∧ Z0 (Kd.R Kd.string 23 wr w.heap.size (fun _ => True) (.slice X j d) ((List.zipWith (· + ·) (qs.take j) (rs.take j)).map Sv.rtxt)) ∧ Z0 (wr.heap[w.heap.size]? = some (.cells #[.slice A n c, .string (Sv.rtxt q)] 25 (0, 0))) ∧ Z0 (wr.heap[w.heap.size + 1]? = some (.cells #[.slice B n c', .string (Sv.rtxt r)] 25 (0, 0))) ∧ Z0 (wr.heap[w.heap.size + 1 + 1]? = some (.cells #[.slice none 0 0, .string ⟨#[]⟩] 25 (0, 0))) ∧ Z0 (wr.heap[g2]? = some (.cells #[.slice X j d, .string (Sv.rtxt (q + r))] 25 (0, 0))) ∧ Z0 (Below w.heap.size w wr))
  (fun i _ => n - (Go.RowKit.intOf i).toNat)
 case atStart => exact ⟨0, none, 0, by omega, rfl, ⟨Kd.R_nil _ _ _ _ _⟩, B0, B3, B1, B2, HB⟩
 clear B0 B3 B1 B2 HB hC hC'
 obtain ⟨j, X, d, hj, rfl, HO, B0, B3, B1, B2, HB⟩ := hrel
 obtain ⟨p0, p1, -, -⟩ := b2 B0
 obtain ⟨s0, s1, -, -⟩ := b2 B3
 obtain ⟨q0, q1, f0, f1⟩ := b2 B2
 rcases Nat.lt_or_ge j n with h4 | h4
 · have c4 : decide ((j : Int) < n) = true := decide_eq_true (by omega)
   have hjq : j < qs.length := by have := hn.out; omega
   have hjr : j < rs.length := by have := hn'.out; omega
   obtain ⟨p, hp⟩ : ∃ p, qs[j] = p := ⟨_, rfl⟩
   obtain ⟨p', hp'⟩ : ∃ p, rs[j] = p := ⟨_, rfl⟩
   have hpd : ndR p ≤ 50000 := hq p (by rw [← hp]; exact List.mem_append_left _ (List.getElem_mem _))
   have hpd' : ndR p' ≤ 50000 := hr p' (by rw [← hp']; exact List.mem_append_left _ (List.getElem_mem _))
   obtain ⟨ad, rfl, hxx, x1, x2⟩ := asI (Kd.C_below hCw.out HB.out) (j : Int) (by omega) (by omega)
   rw [Int.toNat_natCast, show rdOf ByteArray.empty (qs.map Sv.rtxt) (j : Int) = Sv.rtxt p by rw [← hp]; simp [rdOf, hjq]] at hxx
   obtain ⟨ae, rfl, hyy, -, -⟩ := asI (Kd.C_below hCw'.out HB.out) (j : Int) (by omega) (by omega)
   rw [Int.toNat_natCast, show rdOf ByteArray.empty (rs.map Sv.rtxt) (j : Int) = Sv.rtxt p' by rw [← hp']; simp [rdOf, hjr]] at hyy
   go_wp2
   have hd := (Below.refl wr.heap.size wr).drew
   refine start_ (n := 17) (S := fun w' => w'.cell? ⟨g2, 0, none⟩ = some (.slice X j d) ∧ w'.cell? ⟨w.heap.size, 0, none⟩ = some (.slice (some ad) n c) ∧ w'.cell? (ad.add j) = some (.string (Sv.rtxt p)) ∧ w'.cell? ⟨w.heap.size + 1, 0, none⟩ = some (.slice (some ae) n c') ∧ w'.cell? (ae.add j) = some (.string (Sv.rtxt p'))) (ds := [16]) _ (by kernel_rfl) rfl rfl ⟨q0, p0, hxx, s0, hyy⟩ (fun hHeld => ?_)
   refine tp 0 20 ?_
   refine tk 1 21 (by exact hHeld) ?_
   refine tp 2 22 ?_
   refine tk 3 23 (by exact hHeld) ?_
   refine tp 4 24 ?_
   refine tp 5 25 ?_
   refine tk 6 26 (by exact hHeld) ?_
   refine tp 7 27 ?_
   refine tk 8 28 (by exact hHeld) ?_
   refine tp 9 29 ?_
   refine tp 10 30 ?_
   refine tk 11 31 (by exact hHeld) ?_
   have HBd := Z0.mk (below_step HB.out hd)
   have HOd := Z0.mk (Kd.R_below HO.out hd)
   have B0d := Z0.mk (blk_below B0.out hd)
   have B3d := Z0.mk (blk_below B3.out hd)
   have B1d := Z0.mk (blk_below B1.out hd)
   have B2d := Z0.mk (blk_below B2.out hd)
   clear B0 B1 B2 B3 HB HO p0 p1 q0 q1 s0 s1 f0 f1 hHeld hxx hyy hd
   generalize wr.drew = W4 at *
   obtain ⟨S_, hS_⟩ : ∃ S_ : World → Prop, S_ = (fun w' => w'.cell? ⟨g2, 0, none⟩ = some (.slice X j d) ∧ w'.cell? ⟨w.heap.size, 0, none⟩ = some (.slice (some ad) n c) ∧ w'.cell? (ad.add j) = some (.string (Sv.rtxt p)) ∧ w'.cell? ⟨w.heap.size + 1, 0, none⟩ = some (.slice (some ae) n c') ∧ w'.cell? (ae.add j) = some (.string (Sv.rtxt p'))) := ⟨_, rfl⟩
   have hSS : ∀ u, Z0 (Below w.heap.size w u) → Z0 (u.heap[w.heap.size]? = some (.cells #[.slice (some ad) n c, .string (Sv.rtxt q)] 25 (0, 0))) → Z0 (u.heap[w.heap.size + 1]? = some (.cells #[.slice (some ae) n c', .string (Sv.rtxt r)] 25 (0, 0))) → Z0 (u.heap[g2]? = some (.cells #[.slice X j d, .string (Sv.rtxt (q + r))] 25 (0, 0))) → S_ u := fun u h1 h2 h5 h3 => by
    rw [hS_]
    obtain ⟨ad', e', hx', -, -⟩ := asI (Kd.C_below hCw.out h1.out) (j : Int) (by omega) (by omega)
    obtain rfl : ad = ad' := by injection e'
    rw [Int.toNat_natCast, show rdOf ByteArray.empty (qs.map Sv.rtxt) (j : Int) = Sv.rtxt p by rw [← hp]; simp [rdOf, hjq]] at hx'
    obtain ⟨ae', e', hy', -, -⟩ := asI (Kd.C_below hCw'.out h1.out) (j : Int) (by omega) (by omega)
    obtain rfl : ae = ae' := by injection e'
    rw [Int.toNat_natCast, show rdOf ByteArray.empty (rs.map Sv.rtxt) (j : Int) = Sv.rtxt p' by rw [← hp']; simp [rdOf, hjr]] at hy'
    exact ⟨(b2 h3).1, (b2 h2).1, hx', (b2 h5).1, hy'⟩
   rw [← hS_]
   clear hS_
   refine cl 12 32 ⟨_, Tryz.func73, by kernel_rfl, rfl⟩ (refPlus_ok p p' W4 (by omega) (by omega)) ?_
   rintro _ W5 ⟨rfl, hb⟩
   replace HBd := Z0.mk (below_step HBd.out hb)
   replace HOd := Z0.mk (Kd.R_below HOd.out hb)
   replace B0d := Z0.mk (blk_below B0d.out hb)
   replace B3d := Z0.mk (blk_below B3d.out hb)
   replace B1d := Z0.mk (blk_below B1d.out hb)
   replace B2d := Z0.mk (blk_below B2d.out hb)
   refine ⟨_, rfl, hSS _ HBd B0d B3d B2d, _, (by (simp only [Act.put, List.setIfInBounds_toArray, List.set_cons_zero, List.set_cons_succ]); rfl), ?_⟩
   clear hb
   refine ev1 13 33 (v := .slice (some ⟨W5.heap.size, 0, none⟩) 1 1) (w1 := W5.alloc (.cells #[.string (Sv.rtxt (p + p'))] 23)) ?hr ?_
   case hr => go_simp; try rfl
   have hb := below_alloc (Below.refl W5.heap.size W5) (.cells #[.string (Sv.rtxt (p + p'))] 23)
   refine ⟨hSS _ ⟨below_step HBd.out hb⟩ ⟨blk_below B0d.out hb⟩ ⟨blk_below B3d.out hb⟩ ⟨blk_below B2d.out hb⟩, ?_⟩
   clear hb
   simp only [Act.put, List.setIfInBounds_toArray, List.set_cons_zero, List.set_cons_succ]
   refine lst 14 ?_
   have hlj : (List.zipWith (· + ·) (qs.take j) (rs.take j)).length = j := by rw [List.length_zipWith, List.length_take, List.length_take]; omega
   refine apL (N := some 34) (Sv.rtxt (p + p')) HOd (below_size HBd.out) (by rw [List.length_map, hlj]; omega) rfl ht infoRat ?_
   intro v1 W6 HO1 hb hg
   replace HBd := Z0.mk (HBd.out.trans hb)
   replace B0d := Z0.mk ((hg.block _ (blk_lt B0d.out) (Kd.R_ne HOd.out B0d.out (by decide))).trans B0d.out)
   replace B3d := Z0.mk ((hg.block _ (blk_lt B3d.out) (Kd.R_ne HOd.out B3d.out (by decide))).trans B3d.out)
   replace B1d := Z0.mk ((hg.block _ (blk_lt B1d.out) (Kd.R_ne HOd.out B1d.out (by decide))).trans B1d.out)
   replace B2d := Z0.mk ((hg.block _ (blk_lt B2d.out) (Kd.R_ne HOd.out B2d.out (by decide))).trans B2d.out)
   obtain ⟨X1, d1, rfl, HO2⟩ := R_cut (m := j + 1) HO1 (by rw [List.length_append, List.length_map, hlj]; rfl)
   refine wpList_nil ?_
   refine ⟨fun _ => hSS _ HBd B0d B3d B2d, ?_⟩
   clear HOd HO1 hb hg
   simp only [Act.put, List.setIfInBounds_toArray, List.set_cons_zero, List.set_cons_succ]
   obtain ⟨q0, q1, f0, f1⟩ := b2 B2d
   refine tp 15 35 ?_
   refine stL 16 ?_
   refine done_ (by kernel_rfl) ?_
   clear hlj
   go_wp2
   have et : (List.zipWith (· + ·) (qs.take (j + 1)) (rs.take (j + 1))).map Sv.rtxt = (List.zipWith (· + ·) (qs.take j) (rs.take j)).map Sv.rtxt ++ [Sv.rtxt (p + p')] := by rw [take_succ_get qs j hjq, take_succ_get rs j hjr, List.zipWith_append (by rw [List.length_take, List.length_take]; omega), List.map_append, hp, hp']; rfl
   exact ⟨⟨j + 1, X1, d1, by omega, by simp, ⟨Rstr_put1 (by rw [et]; exact HO2.out) B2d.out _⟩, ⟨blk_far (p := ⟨g2, 0, none⟩) B0d.out (by show w.heap.size ≠ g2; omega) _⟩, ⟨blk_far (p := ⟨g2, 0, none⟩) B3d.out (by show w.heap.size + 1 ≠ g2; omega) _⟩, ⟨blk_far (p := ⟨g2, 0, none⟩) B1d.out (by show w.heap.size + 1 + 1 ≠ g2; omega) _⟩, ⟨blk_put B2d.out 0 _ rfl⟩, ⟨below_set HBd.out (by omega)⟩⟩, by simp [Go.RowKit.intOf]; omega⟩
 obtain rfl : j = n := by omega
 obtain ⟨r0, r1, g0, g1⟩ := b2 B1
 have c4 : decide ((j : Int) < j) = false := decide_eq_false (by omega)
 go_wp2
 refine bodyPost_ret (results_cell_row rfl _ _ (w.heap.size + 1 + 1) 25 #[.slice X j d, .string (Sv.rtxt (q + r))] (0, 0) _ rfl (blk_put (blk_put B1.out 0 _ rfl) 1 _ rfl) hu rfl (by kernel_rfl)) rfl ?_
 rw [List.take_of_length_le (by rw [hn.out]; exact Nat.le_refl _), List.take_of_length_le (by rw [hn'.out]; exact Nat.le_refl _)] at HO
 exact ⟨X, d, rfl, Rstr_put HO.out B1.out _ _, below_set (below_set HB.out (by omega)) (by omega)⟩
theorem refAt_ok (A B : Option Addr) (n c c' : Nat) (qs ps : List Rat) (q : Rat) (w : World) (hC : Z0 (Kd.string.C w A n (qs.map Sv.rtxt))) (hC' : Z0 (Kd.string.C w B n (ps.map Sv.rtxt))) (hn : n = qs.length) (hn' : n = ps.length) (hm : n ≤ 100) (hq : ∀ p ∈ qs ++ [q], ndR p ≤ 100) (hr : ∀ p ∈ ps, ndR p ≤ 100) :
  Calls Tryz.prog 54 #[.agg #[.slice A n c, .string (Sv.rtxt q)], .slice B n c'] w fun e w' => e = .returned (.string (Sv.rtxt ((List.zipWith (· * ·) qs ps).foldl (· + ·) q))) ∧ Below w.heap.size w w' := by
 have HB := Z0.mk (Below.refl w.heap.size w)
 have hu := Tryz.underlying25
 have hCw := hC
 have hCw' := hC'
 replace hn := Z0.mk hn
 replace hn' := Z0.mk hn'
 have hq1 : ndR q ≤ 100 := hq q (by simp)
 obtain ⟨ts, hts⟩ : ∃ ts, Z0 (List.zipWith (· * ·) qs ps = ts) := ⟨_, ⟨rfl⟩⟩
 rw [hts.out]
 have htl : Z0 (ts.length = n) := ⟨by rw [← hts.out, List.length_zipWith, ← hn.out, ← hn'.out]; omega⟩
 go_enter Tryz.func54, Tryz.ntmps54
 go_upto_region 1 with (fail)
 refine al1 ?_
 intro W hb B0
 replace HB := fB HB hb
 obtain ⟨p0, p1, -, -⟩ := b2 B0
 clear hb
 go_wp2
 go_loopw [5, 6] (fun v i wr => ∃ (j : Nat) (σ : Rat), j ≤ n ∧ v = .string (Sv.rtxt σ) ∧ i = .int .i64 j ∧ Z0 ((ts.take j).foldl (· + ·) q = σ) ∧ ndR σ ≤ 100 + 201 * j ∧ Z0 (wr.heap[w.heap.size]? = some (.cells #[.slice A n c, .string (Sv.rtxt q)] 25 (0, 0))) ∧ Z0 (Below w.heap.size w wr))
  (fun _ i _ => n - (Go.RowKit.intOf i).toNat)
 case atStart => exact ⟨0, q, by omega, rfl, rfl, ⟨rfl⟩, by omega, B0, HB⟩
 clear B0 HB hC hC' p0 p1
 obtain ⟨j, σ, hj, rfl, rfl, hσ, hσd, B0, HB⟩ := hrel
 obtain ⟨p0, p1, -, -⟩ := b2 B0
 rcases Nat.lt_or_ge j n with h4 | h4
 · have c4 : decide ((j : Int) < n) = true := decide_eq_true (by omega)
   have hjq : j < qs.length := by have := hn.out; omega
   have hjr : j < ps.length := by have := hn'.out; omega
   have hjt : j < ts.length := by have := htl.out; omega
   obtain ⟨p, hp⟩ : ∃ p, qs[j] = p := ⟨_, rfl⟩
   obtain ⟨p', hp'⟩ : ∃ p, ps[j] = p := ⟨_, rfl⟩
   have hpd : ndR p ≤ 100 := hq p (by rw [← hp]; exact List.mem_append_left _ (List.getElem_mem _))
   have hpd' : ndR p' ≤ 100 := hr p' (by rw [← hp']; exact List.getElem_mem _)
   have hpp := ndR_mul p p'
   have hps := ndR_add σ (p * p')
   have hσ1 : (ts.take (j + 1)).foldl (· + ·) q = σ + p * p' := by
    rw [take_succ_get ts j hjt, List.foldl_append, hσ.out, List.foldl_cons, List.foldl_nil]
    congr 1
    simp only [← hts.out, List.getElem_zipWith, hp, hp']
   replace hσ1 := Z0.mk hσ1
   obtain ⟨ad, rfl, hxx, x1, x2⟩ := asI (Kd.C_below hCw.out HB.out) (j : Int) (by omega) (by omega)
   rw [Int.toNat_natCast, show rdOf ByteArray.empty (qs.map Sv.rtxt) (j : Int) = Sv.rtxt p by rw [← hp]; simp [rdOf, hjq]] at hxx
   obtain ⟨ae, rfl, hyy, -, -⟩ := asI (Kd.C_below hCw'.out HB.out) (j : Int) (by omega) (by omega)
   rw [Int.toNat_natCast, show rdOf ByteArray.empty (ps.map Sv.rtxt) (j : Int) = Sv.rtxt p' by rw [← hp']; simp [rdOf, hjr]] at hyy
   go_wp2
   have hd := (Below.refl wr.heap.size wr).drew
   refine start_ (n := 13) (S := fun w' => w'.cell? ⟨w.heap.size, 0, none⟩ = some (.slice (some ad) n c) ∧ w'.cell? (ad.add j) = some (.string (Sv.rtxt p)) ∧ w'.cell? (ae.add j) = some (.string (Sv.rtxt p'))) (ds := []) _ (by kernel_rfl) rfl rfl ⟨p0, hxx, hyy⟩ (fun hHeld => ?_)
   refine tp 0 16 ?_
   refine tp 1 17 ?_
   refine tk 2 18 (by exact hHeld) ?_
   refine tp 3 19 ?_
   refine tp 4 20 ?_
   refine tk 5 21 (by exact hHeld) ?_
   refine tp 6 22 ?_
   refine tp 7 23 ?_
   refine tp 8 24 ?_
   refine tk 9 25 (by exact hHeld) ?_
   have HBd := Z0.mk (below_step HB.out hd)
   have B0d := Z0.mk (blk_below B0.out hd)
   clear B0 HB p0 p1 hHeld hxx hyy hd
   generalize wr.drew = W4 at *
   obtain ⟨S_, hS_⟩ : ∃ S_ : World → Prop, S_ = (fun w' => w'.cell? ⟨w.heap.size, 0, none⟩ = some (.slice (some ad) n c) ∧ w'.cell? (ad.add j) = some (.string (Sv.rtxt p)) ∧ w'.cell? (ae.add j) = some (.string (Sv.rtxt p'))) := ⟨_, rfl⟩
   have hSS : ∀ u, Z0 (Below w.heap.size w u) → Z0 (u.heap[w.heap.size]? = some (.cells #[.slice (some ad) n c, .string (Sv.rtxt q)] 25 (0, 0))) → S_ u := fun u h1 h2 => by
    rw [hS_]
    obtain ⟨ad', e', hx', -, -⟩ := asI (Kd.C_below hCw.out h1.out) (j : Int) (by omega) (by omega)
    obtain rfl : ad = ad' := by injection e'
    rw [Int.toNat_natCast, show rdOf ByteArray.empty (qs.map Sv.rtxt) (j : Int) = Sv.rtxt p by rw [← hp]; simp [rdOf, hjq]] at hx'
    obtain ⟨ae', e', hy', -, -⟩ := asI (Kd.C_below hCw'.out h1.out) (j : Int) (by omega) (by omega)
    obtain rfl : ae = ae' := by injection e'
    rw [Int.toNat_natCast, show rdOf ByteArray.empty (ps.map Sv.rtxt) (j : Int) = Sv.rtxt p' by rw [← hp']; simp [rdOf, hjr]] at hy'
    exact ⟨(b2 h2).1, hx', hy'⟩
   rw [← hS_]
   clear hS_
   refine cl 10 26 ⟨_, Tryz.func77, by kernel_rfl, rfl⟩ (refTimes_ok p p' W4 (by omega) (by omega)) ?_
   rintro _ W5 ⟨rfl, hb⟩
   replace HBd := Z0.mk (below_step HBd.out hb)
   replace B0d := Z0.mk (blk_below B0d.out hb)
   refine ⟨_, rfl, hSS _ HBd B0d, _, (by (simp only [Act.put, List.setIfInBounds_toArray, List.set_cons_zero, List.set_cons_succ]); rfl), ?_⟩
   clear hb
   refine cl 11 27 ⟨_, Tryz.func73, by kernel_rfl, rfl⟩ (refPlus_ok σ (p * p') W5 (by omega) (by omega)) ?_
   rintro _ W6 ⟨rfl, hb⟩
   replace HBd := Z0.mk (below_step HBd.out hb)
   replace B0d := Z0.mk (blk_below B0d.out hb)
   refine ⟨_, rfl, hSS _ HBd B0d, _, (by (simp only [Act.put, List.setIfInBounds_toArray, List.set_cons_zero, List.set_cons_succ]); rfl), ?_⟩
   clear hb
   refine tp 12 5 ?_
   refine done_ (by kernel_rfl) ?_
   go_wp2
   exact ⟨⟨j + 1, σ + p * p', by omega, rfl, by simp, hσ1, by omega, B0d, HBd⟩, by simp [Go.RowKit.intOf]; omega⟩
 obtain rfl : j = n := by omega
 have c4 : decide ((j : Int) < j) = false := decide_eq_false (by omega)
 have hσ2 := hσ.out
 rw [List.take_of_length_le (by rw [htl.out]; exact Nat.le_refl _)] at hσ2
 replace hσ2 := Z0.mk hσ2
 go_wp2
 go_ret
 rw [hσ2.out]
 exact ⟨rfl, HB.out⟩
structure S5 (w : World) (g : Nat) (o0 o1 o2 o3 : Obj) (u : World) : Prop where
  a : Z0 (u.heap[w.heap.size]? = some o0)
  b : Z0 (u.heap[w.heap.size + 1]? = some o1)
  c : Z0 (u.heap[w.heap.size + 1 + 1]? = some o2)
  d : Z0 (u.heap[g]? = some o3)
  B : Z0 (Below w.heap.size w u)
theorem S5.on {w u u' : World} {g : Nat} {o0 o1 o2 o3 : Obj} (h : S5 w g o0 o1 o2 o3 u) (hb : Below u.heap.size u u') : S5 w g o0 o1 o2 o3 u' :=
 ⟨⟨blk_below h.a.out hb⟩, ⟨blk_below h.b.out hb⟩, ⟨blk_below h.c.out hb⟩, ⟨blk_below h.d.out hb⟩, ⟨below_step h.B.out hb⟩⟩
theorem refPut_ok (A B : Option Addr) (n c c' k : Nat) (qs rs : List Rat) (q r p : Rat) (w : World) (hC : Z0 (Kd.string.C w A n (qs.map Sv.rtxt))) (hC' : Z0 (Kd.string.C w B n (rs.map Sv.rtxt))) (hn : n = qs.length) (hn' : n = rs.length) (hm : n ≤ 100) (hk : k < n) (hp : Z0 (qs.getD k 0 = p)) (hq : ∀ p ∈ qs ++ [q], ndR p ≤ 100) (hr : ∀ p ∈ rs ++ [r], ndR p ≤ 100) :
  Calls Tryz.prog 41 #[.agg #[.slice A n c, .string (Sv.rtxt q)], .int .i64 k, .agg #[.slice B n c', .string (Sv.rtxt r)]] w fun e w' => ∃ X d, e = .returned (.agg #[.slice X n d, .string (Sv.rtxt (q + r * p))]) ∧ Kd.R Kd.string 23 w' w.heap.size (fun _ => True) (.slice X n d) ((List.zipWith (· + ·) (qs.set k 0) (rs.map (· * p))).map Sv.rtxt) ∧ Below w.heap.size w w' := by
 have HB := Z0.mk (Below.refl w.heap.size w)
 have hu := Tryz.underlying25
 have ht := Tryz.underlying22
 have hCw := hC
 have hCw' := hC'
 have hkq : k < qs.length := by omega
 have hpk : qs[k] = p := by rw [← hp.out, List.getD_eq_getElem?_getD, List.getElem?_eq_getElem hkq]; rfl
 replace hn := Z0.mk hn
 replace hn' := Z0.mk hn'
 obtain ⟨zs, hzs⟩ : ∃ zs, Z0 (qs.set k 0 = zs) := ⟨_, ⟨rfl⟩⟩
 have hzl : Z0 (zs.length = n) := ⟨by rw [← hzs.out, List.length_set]; exact hn.out.symm⟩
 rw [hzs.out]
 have hpd : ndR p ≤ 100 := hq p (by rw [← hpk]; exact List.mem_append_left _ (List.getElem_mem _))
 go_enter Tryz.func41, Tryz.ntmps41
 go_upto_region 1 with (fail)
 refine al3 ?_
 intro W hb B0 B3 B1
 replace HB := fB HB hb
 obtain ⟨p0, p1, -, -⟩ := b2 B0
 clear hb
 go_upto_region 2 with (fail)
 have hl2 := Z0.mk (blk_lt B1.out)
 refine al1 ?_
 intro W3 hb B2
 replace B0 := fk B0 hb
 replace B3 := fk B3 hb
 replace B1 := fk B1 hb
 replace HB := fB HB hb
 clear hb p0 p1
 generalize W.heap.size = g2 at *
 have z2 : w.heap.size + 1 + 1 < g2 := hl2.out
 go_wp2
 go_loopw [8] (fun i wr => ∃ (j : Nat) (X : Option Addr) (d : Nat), j ≤ n ∧ i = .int .i64 j ∧ Z0 (Kd.R Kd.string 23 wr w.heap.size (fun _ => True) (.slice X j d) ((zs.take j).map Sv.rtxt)) ∧ Z0 (wr.heap[w.heap.size]? = some (.cells #[.slice A n c, .string (Sv.rtxt q)] 25 (0, 0))) ∧ Z0 (wr.heap[w.heap.size + 1]? = some (.cells #[.slice B n c', .string (Sv.rtxt r)] 25 (0, 0))) ∧ Z0 (wr.heap[w.heap.size + 1 + 1]? = some (.cells #[.slice none 0 0, .string ⟨#[]⟩] 25 (0, 0))) ∧ Z0 (wr.heap[g2]? = some (.cells #[.slice X j d, .string (Sv.rtxt q)] 25 (0, 0))) ∧ Z0 (Below w.heap.size w wr))
  (fun i _ => n - (Go.RowKit.intOf i).toNat)
 case atStart => exact ⟨0, none, 0, by omega, rfl, ⟨Kd.R_nil _ _ _ _ _⟩, B0, B3, B1, B2, HB⟩
 clear B0 B3 B1 B2 HB hC hC'
 obtain ⟨j, X, d, hj, rfl, HO, B0, B3, B1, B2, HB⟩ := hrel
 obtain ⟨p0, p1, -, -⟩ := b2 B0
 obtain ⟨q0, q1, f0, f1⟩ := b2 B2
 rcases Nat.lt_or_ge j n with h4 | h4
 · have c4 : decide ((j : Int) < n) = true := decide_eq_true (by omega)
   have hjq : j < qs.length := by have := hn.out; omega
   have hjz : j < zs.length := by have := hzl.out; omega
   obtain ⟨y, hy⟩ : ∃ y, qs[j] = y := ⟨_, rfl⟩
   obtain ⟨ad, rfl, hxx, x1, x2⟩ := asI (Kd.C_below hCw.out HB.out) (j : Int) (by omega) (by omega)
   rw [Int.toNat_natCast, show rdOf ByteArray.empty (qs.map Sv.rtxt) (j : Int) = Sv.rtxt y by rw [← hy]; simp [rdOf, hjq]] at hxx
   have hz1 : zs[j] = if k = j then 0 else y := by simp only [← hzs.out, List.getElem_set, hy]
   have hz0 : Sv.rtxt 0 = (⟨#[48]⟩ : ByteArray) := rfl
   by_cases h5 : j = k
   · have c5 : ((j : Int) == (k : Int)) = true := beq_iff_eq.mpr (by omega)
     rw [if_pos h5.symm] at hz1
     have et : (zs.take (j + 1)).map Sv.rtxt = (zs.take j).map Sv.rtxt ++ [⟨#[48]⟩] := by rw [take_succ_get zs j hjz, List.map_append, hz1]; rfl
     replace et := Z0.mk et
     replace h5 := Z0.mk h5
     clear hz1 hz0 hy
     go_wp2_with ((with_reducible refine gate_builtin (b := .append) rfl ?_); refine apL (⟨#[48]⟩ : ByteArray) HO (below_size HB.out) (by simp; omega) rfl ht infoRat ?_; intro v1 w1 HO1 hb hg; replace B0 := Z0.mk ((hg.block _ (blk_lt B0.out) (Kd.R_ne HO.out B0.out (by decide))).trans B0.out); replace B3 := Z0.mk ((hg.block _ (blk_lt B3.out) (Kd.R_ne HO.out B3.out (by decide))).trans B3.out); replace B1 := Z0.mk ((hg.block _ (blk_lt B1.out) (Kd.R_ne HO.out B1.out (by decide))).trans B1.out); replace B2 := Z0.mk ((hg.block _ (blk_lt B2.out) (Kd.R_ne HO.out B2.out (by decide))).trans B2.out); replace HB := Z0.mk (HB.out.trans hb); obtain ⟨X1, d1, rfl, HO2⟩ := R_cut (m := j + 1) HO1 (by simp; have := hzl.out; omega); clear p0 p1 q0 q1 f0 f1 HO HO1 hb hg hxx; obtain ⟨q0, q1, f0, f1⟩ := b2 B2)
     exact ⟨⟨j + 1, X1, d1, by omega, by simp, ⟨Rstr_put1 (by rw [et.out]; exact HO2.out) B2.out _⟩, ⟨blk_far (p := ⟨g2, 0, none⟩) B0.out (by show w.heap.size ≠ g2; omega) _⟩, ⟨blk_far (p := ⟨g2, 0, none⟩) B3.out (by show w.heap.size + 1 ≠ g2; omega) _⟩, ⟨blk_far (p := ⟨g2, 0, none⟩) B1.out (by show w.heap.size + 1 + 1 ≠ g2; omega) _⟩, ⟨blk_put B2.out 0 _ rfl⟩, ⟨below_set HB.out (by omega)⟩⟩, by simp [Go.RowKit.intOf]; omega⟩
   · have c5 : ((j : Int) == (k : Int)) = false := beq_eq_false_iff_ne.mpr (by omega)
     rw [if_neg (fun e => h5 e.symm)] at hz1
     have et : (zs.take (j + 1)).map Sv.rtxt = (zs.take j).map Sv.rtxt ++ [Sv.rtxt y] := by rw [take_succ_get zs j hjz, List.map_append, hz1]; rfl
     replace et := Z0.mk et
     replace h5 := Z0.mk h5
     clear hz1 hz0 hy
     go_wp2_with ((with_reducible refine gate_builtin (b := .append) rfl ?_); refine apL (Sv.rtxt y) HO (below_size HB.out) (by simp; omega) rfl ht infoRat ?_; intro v1 w1 HO1 hb hg; replace B0 := Z0.mk ((hg.block _ (blk_lt B0.out) (Kd.R_ne HO.out B0.out (by decide))).trans B0.out); replace B3 := Z0.mk ((hg.block _ (blk_lt B3.out) (Kd.R_ne HO.out B3.out (by decide))).trans B3.out); replace B1 := Z0.mk ((hg.block _ (blk_lt B1.out) (Kd.R_ne HO.out B1.out (by decide))).trans B1.out); replace B2 := Z0.mk ((hg.block _ (blk_lt B2.out) (Kd.R_ne HO.out B2.out (by decide))).trans B2.out); replace HB := Z0.mk (HB.out.trans hb); obtain ⟨X1, d1, rfl, HO2⟩ := R_cut (m := j + 1) HO1 (by simp; have := hzl.out; omega); clear p0 p1 q0 q1 f0 f1 HO HO1 hb hg hxx; obtain ⟨q0, q1, f0, f1⟩ := b2 B2)
     exact ⟨⟨j + 1, X1, d1, by omega, by simp, ⟨Rstr_put1 (by rw [et.out]; exact HO2.out) B2.out _⟩, ⟨blk_far (p := ⟨g2, 0, none⟩) B0.out (by show w.heap.size ≠ g2; omega) _⟩, ⟨blk_far (p := ⟨g2, 0, none⟩) B3.out (by show w.heap.size + 1 ≠ g2; omega) _⟩, ⟨blk_far (p := ⟨g2, 0, none⟩) B1.out (by show w.heap.size + 1 + 1 ≠ g2; omega) _⟩, ⟨blk_put B2.out 0 _ rfl⟩, ⟨below_set HB.out (by omega)⟩⟩, by simp [Go.RowKit.intOf]; omega⟩
 obtain rfl : j = n := by omega
 have c4 : decide ((j : Int) < j) = false := decide_eq_false (by omega)
 rw [List.take_of_length_le (by rw [hzl.out]; exact Nat.le_refl _)] at HO
 obtain ⟨ad, rfl, hxx, x1, x2⟩ := asI (Kd.C_below hCw.out HB.out) (k : Int) (by omega) (by omega)
 rw [Int.toNat_natCast, show rdOf ByteArray.empty (qs.map Sv.rtxt) (k : Int) = Sv.rtxt p by rw [← hpk]; simp [rdOf, hkq]] at hxx
 obtain ⟨s0, s1, -, -⟩ := b2 B3
 obtain ⟨r0, r1, g0, g1⟩ := b2 B1
 go_wp2
 have hd := (Below.refl wr.heap.size wr).drew
 refine start_ (n := 10) (S := (fun w' => (w'.cell? ⟨g2, 0, none⟩ = some (.slice X j d) ∧ w'.cell? ⟨g2, 1, none⟩ = some (.string (Sv.rtxt q))) ∧ (w'.cell? ⟨w.heap.size + 1, 0, none⟩ = some (.slice B j c') ∧ w'.cell? ⟨w.heap.size + 1, 1, none⟩ = some (.string (Sv.rtxt r))) ∧ w'.cell? ⟨w.heap.size, 0, none⟩ = some (.slice (some ad) j c) ∧ w'.cell? (ad.add k) = some (.string (Sv.rtxt p)))) (ds := [9]) _ (by kernel_rfl) rfl rfl ⟨⟨q0, q1⟩, ⟨s0, s1⟩, p0, hxx⟩ (fun hHeld => ?_)
 refine tk 0 34 (by exact hHeld) ?_
 refine tk 1 35 (by exact hHeld) ?_
 refine tp 2 36 ?_
 refine tk 3 37 (by exact hHeld) ?_
 refine tp 4 38 ?_
 refine tp 5 39 ?_
 refine tk 6 40 (by exact hHeld) ?_
 have N := S5.mk (Z0.mk (blk_below B0.out hd)) (Z0.mk (blk_below B3.out hd)) (Z0.mk (blk_below B1.out hd)) (Z0.mk (blk_below B2.out hd)) (Z0.mk (below_step HB.out hd))
 have HOd := Z0.mk (Kd.R_below HO.out hd)
 clear B0 B1 B2 B3 HB HO p0 p1 q0 q1 s0 s1 f0 f1 r0 r1 g0 g1 hHeld hxx hd
 generalize wr.drew = W4 at *
 obtain ⟨S_, hS_⟩ : ∃ S_ : World → Prop, S_ = (fun w' => (w'.cell? ⟨g2, 0, none⟩ = some (.slice X j d) ∧ w'.cell? ⟨g2, 1, none⟩ = some (.string (Sv.rtxt q))) ∧ (w'.cell? ⟨w.heap.size + 1, 0, none⟩ = some (.slice B j c') ∧ w'.cell? ⟨w.heap.size + 1, 1, none⟩ = some (.string (Sv.rtxt r))) ∧ w'.cell? ⟨w.heap.size, 0, none⟩ = some (.slice (some ad) j c) ∧ w'.cell? (ad.add k) = some (.string (Sv.rtxt p))) := ⟨_, rfl⟩
 have hSS : ∀ u, S5 w g2 (.cells #[.slice (some ad) j c, .string (Sv.rtxt q)] 25) (.cells #[.slice B j c', .string (Sv.rtxt r)] 25) (.cells #[.slice none 0 0, .string ⟨#[]⟩] 25) (.cells #[.slice X j d, .string (Sv.rtxt q)] 25) u → S_ u := fun u h => by
  rw [hS_]
  obtain ⟨ad', e', hx', -, -⟩ := asI (Kd.C_below hCw.out h.B.out) (k : Int) (by omega) (by omega)
  obtain rfl : ad = ad' := by injection e'
  rw [Int.toNat_natCast, show rdOf ByteArray.empty (qs.map Sv.rtxt) (k : Int) = Sv.rtxt p by rw [← hpk]; simp [rdOf, hkq]] at hx'
  exact ⟨⟨(b2 h.d).1, (b2 h.d).2.1⟩, ⟨(b2 h.b).1, (b2 h.b).2.1⟩, (b2 h.a).1, hx'⟩
 rw [← hS_]
 clear hS_
 have hr2 : ∀ y ∈ rs ++ [r], ndR y ≤ 50000 := fun y hy => Nat.le_trans (hr y hy) (by omega)
 refine cl 7 41 ⟨_, Tryz.func50, by kernel_rfl, rfl⟩ (refLTimes_ok B j c' rs r p W4 ⟨Kd.C_below hCw'.out N.B.out⟩ hn'.out (by omega) hr2 (by omega)) ?_
 rintro _ W5 ⟨Y, d5, rfl, HY, hb⟩
 replace N := N.on hb
 replace HOd := Z0.mk (Kd.R_below HOd.out hb)
 refine ⟨_, rfl, hSS _ N, _, (by (simp only [Act.put, List.setIfInBounds_toArray, List.set_cons_zero, List.set_cons_succ]); rfl), ?_⟩
 have hCX := (Kd.R_reads' HOd.out).2.2
 have hCY := (Kd.R_reads' HY).2.2
 rw [List.length_map, hzl.out] at hCX
 rw [List.length_map, List.length_map, ← hn'.out] at hCY
 have e10 : ∀ x ∈ zs ++ [q], ndR x ≤ 50000 := fun x hx => by
  rcases List.mem_append.1 hx with hx | hx
  · rw [← hzs.out] at hx
    rcases List.mem_or_eq_of_mem_set hx with hx | rfl
    · have := hq x (List.mem_append_left _ hx); omega
    · have := ndR_0; omega
  · have := hq x (List.mem_append_right _ hx); omega
 have e11 : ∀ x ∈ rs.map (· * p) ++ [r * p], ndR x ≤ 50000 := fun x hx => by
  rcases List.mem_append.1 hx with hx | hx
  · obtain ⟨y, hy', rfl⟩ := List.mem_map.1 hx
    have := ndR_mul y p
    have := hr y (List.mem_append_left _ hy')
    omega
  · rw [List.mem_singleton.1 hx]
    have := ndR_mul r p
    have := hr r (by simp)
    omega
 clear hb
 refine cl 8 42 ⟨_, Tryz.func56, by kernel_rfl, rfl⟩ (refLPlus_ok X Y j d d5 zs (rs.map (· * p)) q (r * p) W5 ⟨hCX⟩ ⟨hCY⟩ hzl.out.symm (by rw [List.length_map]; exact hn'.out) (by omega) e10 e11) ?_
 rintro _ W6 ⟨Z, d6, rfl, HZ, hb⟩
 have hlo := N.B.out.size
 replace N := N.on hb
 refine ⟨_, rfl, hSS _ N, _, (by (simp only [Act.put, List.setIfInBounds_toArray, List.set_cons_zero, List.set_cons_succ]); rfl), ?_⟩
 obtain ⟨f0, f1, f2, f3⟩ := b2 N.c
 refine stL 9 ?_
 refine done_ (by kernel_rfl) ?_
 have B9 := blk_put (blk_put N.c.out 0 (.slice Z j d6) rfl) 1 (.string (Sv.rtxt (q + r * p))) rfl
 go_wp2
 refine bodyPost_ret (results_cell_row rfl _ _ (w.heap.size + 1 + 1) 25 #[.slice Z j d6, .string (Sv.rtxt (q + r * p))] (0, 0) _ rfl B9 hu rfl (by kernel_rfl)) rfl ?_
 exact ⟨Z, d6, rfl, Kd.R_lower (Rstr_put HZ N.c.out _ _) hlo, below_set (below_set N.B.out (by omega)) (by omega)⟩
theorem refAdd_ok (A B : Option Addr) (n c n' c' : Nat) (l m : List ByteArray) (s t : ByteArray) (w : World) (hC : Z0 (Kd.string.C w A n l)) (hC' : Z0 (Kd.string.C w B n' m)) (hn : n = l.length) (hn' : n' = m.length) (hO : ∀ s ∈ l, s.size ≤ 10000000000) (hO' : ∀ s ∈ m, s.size ≤ 10000000000) (hs : s.size ≤ 10000000000) (ht : t.size ≤ 10000000000) :
  Calls Tryz.prog 22 #[.agg #[.slice A n c, .string s], .agg #[.slice B n' c', .string t]] w (LinR w w.heap.size (addS l s m t)) := by
 have HB := Z0.mk (Below.refl w.heap.size w)
 have hu := Tryz.underlying25
 obtain ⟨y, hy⟩ : ∃ x, Z0 (chk2L l s m t = x) := ⟨_, ⟨rfl⟩⟩
 replace hn := Z0.mk hn
 replace hn' := Z0.mk hn'
 go_enter Tryz.func22, Tryz.ntmps22
 go_upto_region 1 with (fail)
 refine al3 ?_
 intro W hb B0 B1 B2
 replace HB := fB HB hb
 replace hC := Z0.mk (Kd.C_below hC.out hb)
 replace hC' := Z0.mk (Kd.C_below hC'.out hb)
 obtain ⟨p0, p1, -, -⟩ := b2 B0
 obtain ⟨q0, q1, -, -⟩ := b2 B1
 obtain ⟨r0, r1, f0, f1⟩ := b2 B2
 clear hb
 by_cases h0 : y = 0
 · subst h0
   have hs' : addS l s m t = fin (List.zipWith (· + ·) (l.map rv) (m.map rv)) (rv s + rv t) := if_pos hy.out
   obtain ⟨qs, rs, q, r, rfl, rfl, rfl, rfl, e1, e2, e3, e4⟩ := of_chk2L hy.out
   rw [rv_map, rv_map, rv_rtxt, rv_rtxt] at hs'
   have e5 : n = qs.length := by rw [hn.out, List.length_map]
   have e6 : n' = rs.length := by rw [hn'.out, List.length_map]
   have hm3 : n ≤ 1000 := by omega
   obtain rfl : n' = n := by omega
   obtain ⟨zs, hzs⟩ : ∃ zs, List.zipWith (· + ·) qs rs = zs := ⟨_, rfl⟩
   obtain ⟨z, hz⟩ : ∃ z, q + r = z := ⟨_, rfl⟩
   have e12 : ∀ x ∈ zs, ndR x ≤ 100000 := fun x hx => by
    rw [← hzs] at hx
    obtain ⟨i, hi, rfl⟩ := List.getElem_of_mem hx
    rw [List.getElem_zipWith]
    rw [List.length_zipWith] at hi
    have a := e3 qs[i] (List.mem_append_left _ (List.getElem_mem _))
    have b := e4 rs[i] (List.mem_append_left _ (List.getElem_mem _))
    have := ndR_add qs[i] rs[i]
    omega
   have e13 : ndR z ≤ 100000 := by
    have a := e3 q (by simp)
    have b := e4 r (by simp)
    have := ndR_add q r
    rw [hz] at this
    omega
   have e14 : n' = zs.length := by rw [← hzs, List.length_zipWith, ← e1]; omega
   have e11 : ∀ p ∈ qs ++ [q], ndR p ≤ 50000 := fun p hp => Nat.le_trans (e3 p hp) (by omega)
   have e15 : ∀ p ∈ rs ++ [r], ndR p ≤ 50000 := fun p hp => Nat.le_trans (e4 p hp) (by omega)
   have T := fun (w : World) (hC : Z0 (Kd.string.C w A n' (qs.map Sv.rtxt))) (hC' : Z0 (Kd.string.C w B n' (rs.map Sv.rtxt))) => refLPlus_ok A B n' c c' qs rs q r w hC hC' e5 e6 hm3 e11 e15
   rw [hzs, hz] at T hs'
   replace hs' := Z0.mk hs'
   replace e1 := Z0.mk e1
   replace e5 := Z0.mk e5
   replace e6 := Z0.mk e6
   clear hzs hz
   replace e14 := Z0.mk e14
   go_wp2_with (first
    | ((with_reducible refine gc_ 56 rfl ?_); refine gL 16 Tryz.func56 (T _ hC hC') ?_; rintro _ w6 ⟨Y, d6, rfl, HY, hb⟩; refine ⟨_, rfl, ?_⟩; have hlo6 := Z0.mk (below_size HB.out); have z5 := Z0.mk (blk_lt B2.out); have CY := Z0.mk (Kd.R_reads' HY).2.2; have hd6 := (Kd.R_reads' HY).2.1; have hY6 := Z0.mk ((Ab.of_R HY).mono (lo' := w.heap.size + 1 + 1 + 1) (by have := z5.out; omega)); replace B2 := fk B2 hb; replace HB := fB HB hb; clear hb HY; (try clear p0 p1); (try clear q0 q1); clear r0 r1 f0 f1; obtain ⟨r0, r1, f0, f1⟩ := b2 B2)
    | ((with_reducible refine gc_ 40 rfl ?_); refine gL 17 Tryz.func40 (refDone_ok Y n' d6 (w.heap.size + 1 + 1 + 1) zs z w6 ⟨by have := CY.out; rwa [List.length_map, ← e14.out] at this⟩ e14.out hm3 hd6 hY6.out e12 e13) ?_; rintro _ w7 ⟨Z, d7, rfl, hd7, CZ, hZ, hb⟩; refine ⟨_, rfl, ?_⟩; replace hZ := Z0.mk hZ; replace CZ := Z0.mk CZ; replace B2 := fk B2 hb; replace HB := fB HB hb; clear hb r0 r1 f0 f1; obtain ⟨r0, r1, f0, f1⟩ := b2 B2)
    | (refine cG rfl ?_; intro w' hb; replace B0 := fk B0 hb; replace B1 := fk B1 hb; replace B2 := fk B2 hb; replace HB := fB HB hb; replace hC := Z0.mk (Kd.C_below hC.out hb); replace hC' := Z0.mk (Kd.C_below hC'.out hb); clear hb p0 p1 q0 q1 r0 r1 f0 f1; obtain ⟨p0, p1, -, -⟩ := b2 B0; obtain ⟨q0, q1, -, -⟩ := b2 B1; obtain ⟨r0, r1, f0, f1⟩ := b2 B2))
   refine bodyPost_ret (results_ct rfl _ _ (w.heap.size + 1 + 1) 25 #[.slice Z _ d7, .string _] (0, 0) _ rfl (blk_put (blk_put B2.out 0 _ rfl) 1 _ rfl) hu rfl (by kernel_rfl)) rfl ?_
   rw [hs'.out]
   exact ⟨Z, d7, rfl, hd7, Cs_set2 CZ.out hZ.out (by omega) _ _, hZ.out.mono (by omega), below_set (below_set HB.out (by omega)) (by omega)⟩
 · have hs' : addS l s m t = ([], ⟨#[]⟩, y) := by unfold addS; rw [hy.out, if_neg h0]
   replace hs' := Z0.mk hs'
   have h0' : (y != 0) = true := bne_iff_ne.mpr h0
   go_wp2_with ((with_reducible refine gc_ 39 rfl ?_); refine cG rfl ?_; intro w' hb; replace B0 := fk B0 hb; replace B1 := fk B1 hb; replace B2 := fk B2 hb; replace HB := fB HB hb; replace hC := Z0.mk (Kd.C_below hC.out hb); replace hC' := Z0.mk (Kd.C_below hC'.out hb); clear hb p0 p1 q0 q1 r0 r1 f0 f1; obtain ⟨p0, p1, -, -⟩ := b2 B0; obtain ⟨q0, q1, -, -⟩ := b2 B1; obtain ⟨r0, r1, f0, f1⟩ := b2 B2)
   refine bodyPost_ret (results_ct rfl _ _ (w.heap.size + 1 + 1) 25 #[.slice none 0 0, .string ⟨#[]⟩] (0, 0) _ rfl (blk_put (blk_put B2.out 0 _ rfl) 1 _ rfl) hu rfl (by kernel_rfl)) rfl ?_
   rw [hs'.out]
   exact ⟨none, 0, rfl, Nat.le_refl _, C_nilS, Ab.none, below_set (below_set HB.out (by omega)) (by omega)⟩
instance ne_Add : Ctr 22 (type_of% @refAdd_ok) := ⟨@refAdd_ok, _, Tryz.func22, by kernel_rfl, rfl⟩
theorem refSubstitute_ok (A B : Option Addr) (n c n' c' : Nat) (i : Int) (l m : List ByteArray) (s t : ByteArray) (w : World) (hC : Z0 (Kd.string.C w A n l)) (hC' : Z0 (Kd.string.C w B n' m)) (hn : n = l.length) (hn' : n' = m.length) (hO : ∀ s ∈ l, s.size ≤ 10000000000) (hO' : ∀ s ∈ m, s.size ≤ 10000000000) (hs : s.size ≤ 10000000000) (ht : t.size ≤ 10000000000) :
  Calls Tryz.prog 11 #[.agg #[.slice A n c, .string s], .int .i64 i, .agg #[.slice B n' c', .string t]] w (LinR w w.heap.size (subS l s i m t)) := by
 have HB := Z0.mk (Below.refl w.heap.size w)
 have hu := Tryz.underlying25
 obtain ⟨y, hy⟩ : ∃ x, Z0 (chk2L l s m t = x) := ⟨_, ⟨rfl⟩⟩
 replace hn := Z0.mk hn
 replace hn' := Z0.mk hn'
 go_enter Tryz.func11, Tryz.ntmps11
 go_upto_region 1 with (fail)
 refine al3 ?_
 intro W hb B0 B1 B2
 replace HB := fB HB hb
 replace hC := Z0.mk (Kd.C_below hC.out hb)
 replace hC' := Z0.mk (Kd.C_below hC'.out hb)
 obtain ⟨p0, p1, -, -⟩ := b2 B0
 obtain ⟨q0, q1, -, -⟩ := b2 B1
 obtain ⟨r0, r1, f0, f1⟩ := b2 B2
 clear hb
 by_cases h0 : y = 0
 · subst h0
   by_cases h1 : i < 0 ∨ (l.length : Int) ≤ i
   · have hs' : Z0 (subS l s i m t = ([], ⟨#[]⟩, 6)) := ⟨by unfold subS; rw [hy.out, if_pos rfl, if_pos h1]⟩
     rw [← hn.out] at h1
     by_cases h2 : i < 0
     · have c1 : decide (i < 0) = true := decide_eq_true h2
       clear h1
       go_wp2_with ((with_reducible refine gc_ 39 rfl ?_); refine cG rfl ?_; intro w' hb; replace B0 := fk B0 hb; replace B1 := fk B1 hb; replace B2 := fk B2 hb; replace HB := fB HB hb; replace hC := Z0.mk (Kd.C_below hC.out hb); replace hC' := Z0.mk (Kd.C_below hC'.out hb); clear hb p0 p1 q0 q1 r0 r1 f0 f1; obtain ⟨p0, p1, -, -⟩ := b2 B0; obtain ⟨q0, q1, -, -⟩ := b2 B1; obtain ⟨r0, r1, f0, f1⟩ := b2 B2)
       refine bodyPost_ret (results_ct rfl _ _ (w.heap.size + 1 + 1) 25 #[.slice none 0 0, .string ⟨#[]⟩] (0, 0) _ rfl (blk_put (blk_put B2.out 0 _ rfl) 1 _ rfl) hu rfl (by kernel_rfl)) rfl ?_
       rw [hs'.out]
       exact ⟨none, 0, rfl, Nat.le_refl _, C_nilS, Ab.none, below_set (below_set HB.out (by omega)) (by omega)⟩
     · have c1 : decide (i < 0) = false := decide_eq_false h2
       have c2 : decide ((n : Int) ≤ i) = true := decide_eq_true (by omega)
       clear h1
       go_wp2_with ((with_reducible refine gc_ 39 rfl ?_); refine cG rfl ?_; intro w' hb; replace B0 := fk B0 hb; replace B1 := fk B1 hb; replace B2 := fk B2 hb; replace HB := fB HB hb; replace hC := Z0.mk (Kd.C_below hC.out hb); replace hC' := Z0.mk (Kd.C_below hC'.out hb); clear hb p0 p1 q0 q1 r0 r1 f0 f1; obtain ⟨p0, p1, -, -⟩ := b2 B0; obtain ⟨q0, q1, -, -⟩ := b2 B1; obtain ⟨r0, r1, f0, f1⟩ := b2 B2)
       refine bodyPost_ret (results_ct rfl _ _ (w.heap.size + 1 + 1) 25 #[.slice none 0 0, .string ⟨#[]⟩] (0, 0) _ rfl (blk_put (blk_put B2.out 0 _ rfl) 1 _ rfl) hu rfl (by kernel_rfl)) rfl ?_
       rw [hs'.out]
       exact ⟨none, 0, rfl, Nat.le_refl _, C_nilS, Ab.none, below_set (below_set HB.out (by omega)) (by omega)⟩
   obtain ⟨k, rfl⟩ := Int.eq_ofNat_of_zero_le (by omega : 0 ≤ i)
   have hk : k < n := by have := hn.out; omega
   have hs' : subS l s k m t = fin (List.zipWith (· + ·) ((l.map rv).set k 0) ((m.map rv).map (· * (l.map rv).getD k 0))) (rv s + rv t * (l.map rv).getD k 0) := by unfold subS; rw [hy.out, if_pos rfl, if_neg h1]; rfl
   clear h1
   obtain ⟨qs, rs, q, r, rfl, rfl, rfl, rfl, e1, e2, e3, e4⟩ := of_chk2L hy.out
   rw [rv_map, rv_map, rv_rtxt, rv_rtxt] at hs'
   have e5 : n = qs.length := by rw [hn.out, List.length_map]
   have e6 : n' = rs.length := by rw [hn'.out, List.length_map]
   have hm3 : n ≤ 1000 := by omega
   have hm4 : n ≤ 100 := by omega
   obtain rfl : n' = n := by omega
   have hkq : k < qs.length := by omega
   obtain ⟨p, hp⟩ : ∃ p, qs.getD k 0 = p := ⟨_, rfl⟩
   have hpn : ndR p ≤ 100 := e3 p (by rw [← hp, List.getD_eq_getElem?_getD, List.getElem?_eq_getElem hkq]; exact List.mem_append_left _ (List.getElem_mem _))
   rw [hp] at hs'
   have c1 : decide ((k : Int) < 0) = false := decide_eq_false (by omega)
   have c2 : decide ((n' : Int) ≤ (k : Int)) = false := decide_eq_false (by omega)
   obtain ⟨zs, hzs⟩ : ∃ zs, List.zipWith (· + ·) (qs.set k 0) (rs.map (· * p)) = zs := ⟨_, rfl⟩
   obtain ⟨z, hz⟩ : ∃ z, q + r * p = z := ⟨_, rfl⟩
   have e12 : ∀ x ∈ zs, ndR x ≤ 100000 := fun x hx => by
    rw [← hzs] at hx
    obtain ⟨i, hi, rfl⟩ := List.getElem_of_mem hx
    rw [List.getElem_zipWith]
    rw [List.length_zipWith] at hi
    have a : ndR (qs.set k 0)[i] ≤ 100 := by
     rcases List.mem_or_eq_of_mem_set (List.getElem_mem (by omega : i < (qs.set k 0).length)) with h | h
     · exact e3 _ (List.mem_append_left _ h)
     · rw [h]; have := ndR_0; omega
    have b := ndR_add (qs.set k 0)[i] (rs.map (· * p))[i]
    rw [List.getElem_map] at b ⊢
    have c := ndR_mul (rs[i]'(by have := hi; rw [List.length_map] at this; omega)) p
    have d := e4 (rs[i]'(by have := hi; rw [List.length_map] at this; omega)) (List.mem_append_left _ (List.getElem_mem _))
    omega
   have e13 : ndR z ≤ 100000 := by
    have a := e3 q (by simp)
    have b := e4 r (by simp)
    have d := ndR_mul r p
    have := ndR_add q (r * p)
    rw [hz] at this
    omega
   have e14 : n' = zs.length := by rw [← hzs, List.length_zipWith, List.length_set, List.length_map, ← e1]; omega
   have T := fun (w : World) (hC : Z0 (Kd.string.C w A n' (qs.map Sv.rtxt))) (hC' : Z0 (Kd.string.C w B n' (rs.map Sv.rtxt))) => refPut_ok A B n' c c' k qs rs q r p w hC hC' e5 e6 hm4 hk ⟨hp⟩ e3 e4
   rw [hzs, hz] at T hs'
   replace hs' := Z0.mk hs'
   replace e1 := Z0.mk e1
   replace e5 := Z0.mk e5
   replace e6 := Z0.mk e6
   clear hzs hz hp
   replace e14 := Z0.mk e14
   go_wp2_with (first
    | ((with_reducible refine gc_ 41 rfl ?_); refine gL 29 Tryz.func41 (T _ hC hC') ?_; rintro _ w6 ⟨Y, d6, rfl, HY, hb⟩; refine ⟨_, rfl, ?_⟩; have hlo6 := Z0.mk (below_size HB.out); have z5 := Z0.mk (blk_lt B2.out); have CY := Z0.mk (Kd.R_reads' HY).2.2; have hd6 := (Kd.R_reads' HY).2.1; have hY6 := Z0.mk ((Ab.of_R HY).mono (lo' := w.heap.size + 1 + 1 + 1) (by have := z5.out; omega)); replace B2 := fk B2 hb; replace HB := fB HB hb; clear hb HY; (try clear p0 p1); (try clear q0 q1); clear r0 r1 f0 f1; obtain ⟨r0, r1, f0, f1⟩ := b2 B2)
    | ((with_reducible refine gc_ 40 rfl ?_); refine gL 30 Tryz.func40 (refDone_ok Y n' d6 (w.heap.size + 1 + 1 + 1) zs z w6 ⟨by have := CY.out; rwa [List.length_map, ← e14.out] at this⟩ e14.out hm3 hd6 hY6.out e12 e13) ?_; rintro _ w7 ⟨Z, d7, rfl, hd7, CZ, hZ, hb⟩; refine ⟨_, rfl, ?_⟩; replace hZ := Z0.mk hZ; replace CZ := Z0.mk CZ; replace B2 := fk B2 hb; replace HB := fB HB hb; clear hb r0 r1 f0 f1; obtain ⟨r0, r1, f0, f1⟩ := b2 B2)
    | (refine cG rfl ?_; intro w' hb; replace B0 := fk B0 hb; replace B1 := fk B1 hb; replace B2 := fk B2 hb; replace HB := fB HB hb; replace hC := Z0.mk (Kd.C_below hC.out hb); replace hC' := Z0.mk (Kd.C_below hC'.out hb); clear hb p0 p1 q0 q1 r0 r1 f0 f1; obtain ⟨p0, p1, -, -⟩ := b2 B0; obtain ⟨q0, q1, -, -⟩ := b2 B1; obtain ⟨r0, r1, f0, f1⟩ := b2 B2))
   refine bodyPost_ret (results_ct rfl _ _ (w.heap.size + 1 + 1) 25 #[.slice Z _ d7, .string _] (0, 0) _ rfl (blk_put (blk_put B2.out 0 _ rfl) 1 _ rfl) hu rfl (by kernel_rfl)) rfl ?_
   rw [hs'.out]
   exact ⟨Z, d7, rfl, hd7, Cs_set2 CZ.out hZ.out (by omega) _ _, hZ.out.mono (by omega), below_set (below_set HB.out (by omega)) (by omega)⟩
 · have hs' : Z0 (subS l s i m t = ([], ⟨#[]⟩, y)) := ⟨by unfold subS; rw [hy.out, if_neg h0]⟩
   have h0' : (y != 0) = true := bne_iff_ne.mpr h0
   go_wp2_with ((with_reducible refine gc_ 39 rfl ?_); refine cG rfl ?_; intro w' hb; replace B0 := fk B0 hb; replace B1 := fk B1 hb; replace B2 := fk B2 hb; replace HB := fB HB hb; replace hC := Z0.mk (Kd.C_below hC.out hb); replace hC' := Z0.mk (Kd.C_below hC'.out hb); clear hb p0 p1 q0 q1 r0 r1 f0 f1; obtain ⟨p0, p1, -, -⟩ := b2 B0; obtain ⟨q0, q1, -, -⟩ := b2 B1; obtain ⟨r0, r1, f0, f1⟩ := b2 B2)
   refine bodyPost_ret (results_ct rfl _ _ (w.heap.size + 1 + 1) 25 #[.slice none 0 0, .string ⟨#[]⟩] (0, 0) _ rfl (blk_put (blk_put B2.out 0 _ rfl) 1 _ rfl) hu rfl (by kernel_rfl)) rfl ?_
   rw [hs'.out]
   exact ⟨none, 0, rfl, Nat.le_refl _, C_nilS, Ab.none, below_set (below_set HB.out (by omega)) (by omega)⟩
instance ne_Substitute : Ctr 11 (type_of% @refSubstitute_ok) := ⟨@refSubstitute_ok, _, Tryz.func11, by kernel_rfl, rfl⟩
theorem refScale_ok (A : Option Addr) (n c' : Nat) (l : List ByteArray) (s c : ByteArray) (w : World) (hC : Z0 (Kd.string.C w A n l)) (hn : n = l.length) (hO : ∀ s ∈ l, s.size ≤ 10000000000) (hs : s.size ≤ 10000000000) (hc : c.size ≤ 10000000000) :
  Calls Tryz.prog 18 #[.agg #[.slice A n c', .string s], .string c] w (LinR w w.heap.size (scaleS l s c)) := by
 have HB := Z0.mk (Below.refl w.heap.size w)
 have hu := Tryz.underlying25
 obtain ⟨y, hy⟩ : ∃ x, Z0 (chkL l s = x) := ⟨_, ⟨rfl⟩⟩
 obtain ⟨x, hx⟩ : ∃ x, Z0 (numC c = x) := ⟨_, ⟨rfl⟩⟩
 replace hn := Z0.mk hn
 go_enter Tryz.func18, Tryz.ntmps18
 go_upto_region 1 with (fail)
 refine al2 ?_
 intro W hb B0 B2
 replace HB := fB HB hb
 replace hC := Z0.mk (Kd.C_below hC.out hb)
 obtain ⟨p0, p1, -, -⟩ := b2 B0
 obtain ⟨r0, r1, f0, f1⟩ := b2 B2
 clear hb
 by_cases h0 : y = 0
 · subst h0
   by_cases h1 : x = 0
   · subst h1
     have hs' : scaleS l s c = fin ((l.map rv).map (· * rv c)) (rv s * rv c) := by unfold scaleS; rw [hy.out, hx.out, if_pos rfl, if_pos rfl]
     obtain ⟨a1, qs, q, rfl, rfl, a2, a3⟩ := of_chkL hy.out
     obtain ⟨r, rfl, hr⟩ := of_numC hx.out
     rw [rv_map, rv_rtxt, rv_rtxt] at hs'
     have e5 : n = qs.length := by rw [hn.out, List.length_map]
     have hm3 : n ≤ 1000 := by rw [List.length_map] at a1; omega
     obtain ⟨zs, hzs⟩ : ∃ zs, qs.map (· * r) = zs := ⟨_, rfl⟩
     obtain ⟨z, hz⟩ : ∃ z, q * r = z := ⟨_, rfl⟩
     have e12 : ∀ x ∈ zs, ndR x ≤ 100000 := fun x hx => by
      rw [← hzs] at hx
      obtain ⟨y, hy', rfl⟩ := List.mem_map.1 hx
      have := ndR_mul y r
      have := a2 y hy'
      omega
     have e13 : ndR z ≤ 100000 := by have := ndR_mul q r; rw [hz] at this; omega
     have e14 : n = zs.length := by rw [← hzs, List.length_map]; exact e5
     have e11 : ∀ p ∈ qs ++ [q], ndR p ≤ 50000 := fun p hp => by
      rcases List.mem_append.1 hp with hp | hp
      · have := a2 p hp; omega
      · rw [List.mem_singleton.1 hp]; omega
     have T := fun (w : World) (hC : Z0 (Kd.string.C w A n (qs.map Sv.rtxt))) => refLTimes_ok A n c' qs q r w hC e5 hm3 e11 (by omega)
     rw [hzs, hz] at T hs'
     replace hs' := Z0.mk hs'
     replace e5 := Z0.mk e5
     replace e14 := Z0.mk e14
     clear hzs hz
     go_wp2_with (first
      | ((with_reducible refine gc_ 50 rfl ?_); refine gL 22 Tryz.func50 (T _ hC) ?_; rintro _ w6 ⟨Y, d6, rfl, HY, hb⟩; refine ⟨_, rfl, ?_⟩; have z5 := Z0.mk (blk_lt B2.out); have CY := Z0.mk (Kd.R_reads' HY).2.2; have hd6 := (Kd.R_reads' HY).2.1; have hY6 := Z0.mk ((Ab.of_R HY).mono (lo' := w.heap.size + 1 + 1) (by have := z5.out; omega)); replace B2 := fk B2 hb; replace HB := fB HB hb; clear hb HY p0 p1 r0 r1 f0 f1; obtain ⟨r0, r1, f0, f1⟩ := b2 B2)
      | ((with_reducible refine gc_ 40 rfl ?_); refine gL 23 Tryz.func40 (refDone_ok Y n d6 (w.heap.size + 1 + 1) zs z w6 ⟨by have := CY.out; rwa [List.length_map, ← e14.out] at this⟩ e14.out hm3 hd6 hY6.out e12 e13) ?_; rintro _ w7 ⟨Z, d7, rfl, hd7, CZ, hZ, hb⟩; refine ⟨_, rfl, ?_⟩; replace hZ := Z0.mk hZ; replace CZ := Z0.mk CZ; replace B2 := fk B2 hb; replace HB := fB HB hb; clear hb r0 r1 f0 f1; obtain ⟨r0, r1, f0, f1⟩ := b2 B2)
      | (refine cG rfl ?_; intro w' hb; replace B0 := fk B0 hb; replace B2 := fk B2 hb; replace HB := fB HB hb; replace hC := Z0.mk (Kd.C_below hC.out hb); clear hb p0 p1 r0 r1 f0 f1; obtain ⟨p0, p1, -, -⟩ := b2 B0; obtain ⟨r0, r1, f0, f1⟩ := b2 B2))
     refine bodyPost_ret (results_ct rfl _ _ (w.heap.size + 1) 25 #[.slice Z _ d7, .string _] (0, 0) _ rfl (blk_put (blk_put B2.out 0 _ rfl) 1 _ rfl) hu rfl (by kernel_rfl)) rfl ?_
     rw [hs'.out]
     exact ⟨Z, d7, rfl, hd7, Cs_set2 CZ.out hZ.out (by omega) _ _, hZ.out.mono (by omega), below_set (below_set HB.out (by omega)) (by omega)⟩
   · have hs' : Z0 (scaleS l s c = ([], ⟨#[]⟩, x)) := ⟨by unfold scaleS; rw [hy.out, hx.out, if_pos rfl, if_neg h1]⟩
     have h0' : (x != 0) = true := bne_iff_ne.mpr h1
     go_wp2_with (refine cG rfl ?_; intro w' hb; replace B0 := fk B0 hb; replace B2 := fk B2 hb; replace HB := fB HB hb; replace hC := Z0.mk (Kd.C_below hC.out hb); clear hb p0 p1 r0 r1 f0 f1; obtain ⟨p0, p1, -, -⟩ := b2 B0; obtain ⟨r0, r1, f0, f1⟩ := b2 B2)
     refine bodyPost_ret (results_ct rfl _ _ (w.heap.size + 1) 25 #[.slice none 0 0, .string ⟨#[]⟩] (0, 0) _ rfl (blk_put (blk_put B2.out 0 _ rfl) 1 _ rfl) hu rfl (by kernel_rfl)) rfl ?_
     rw [hs'.out]
     exact ⟨none, 0, rfl, Nat.le_refl _, C_nilS, Ab.none, below_set (below_set HB.out (by omega)) (by omega)⟩
 · have hs' : Z0 (scaleS l s c = ([], ⟨#[]⟩, y)) := ⟨by unfold scaleS; rw [hy.out, if_neg h0]⟩
   have h0' : (y != 0) = true := bne_iff_ne.mpr h0
   go_wp2_with (refine cG rfl ?_; intro w' hb; replace B0 := fk B0 hb; replace B2 := fk B2 hb; replace HB := fB HB hb; replace hC := Z0.mk (Kd.C_below hC.out hb); clear hb p0 p1 r0 r1 f0 f1; obtain ⟨p0, p1, -, -⟩ := b2 B0; obtain ⟨r0, r1, f0, f1⟩ := b2 B2)
   refine bodyPost_ret (results_ct rfl _ _ (w.heap.size + 1) 25 #[.slice none 0 0, .string ⟨#[]⟩] (0, 0) _ rfl (blk_put (blk_put B2.out 0 _ rfl) 1 _ rfl) hu rfl (by kernel_rfl)) rfl ?_
   rw [hs'.out]
   exact ⟨none, 0, rfl, Nat.le_refl _, C_nilS, Ab.none, below_set (below_set HB.out (by omega)) (by omega)⟩
instance ng_Scale : Ctr 18 (type_of% @refScale_ok) := ⟨@refScale_ok, _, Tryz.func18, by kernel_rfl, rfl⟩
theorem sum_le201 (ts : List Rat) (h : ∀ t ∈ ts, ndR t ≤ 200) : (ts.map fun t => ndR t + 1).sum ≤ 201 * ts.length := by
 induction ts with
 | nil => simp
 | cons t ts ih =>
  rw [List.map_cons, List.sum_cons, List.length_cons]
  have h1 := h t List.mem_cons_self
  have h2 := ih fun x hx => h x (List.mem_cons_of_mem _ hx)
  omega
instance nh_At : Ctr 54 (type_of% @refAt_ok) := ⟨@refAt_ok, _, Tryz.func54, by kernel_rfl, rfl⟩
theorem refEval_ok (A B : Option Addr) (n c n' c' : Nat) (l pt : List ByteArray) (s : ByteArray) (w : World) (hC : Z0 (Kd.string.C w A n l)) (hC' : Z0 (Kd.string.C w B n' pt)) (hn : n = l.length) (hn' : n' = pt.length) (hO : ∀ s ∈ l, s.size ≤ 10000000000) (hs : s.size ≤ 10000000000) (hO' : ∀ s ∈ pt, s.size ≤ 10000000000) :
  Calls Tryz.prog 20 #[.agg #[.slice A n c, .string s], .slice B n' c'] w fun e w' => e = .returned (.tuple #[.string (evalS l s pt).1, .int .i64 (evalS l s pt).2]) ∧ Below w.heap.size w w' := by
 have HB := Z0.mk (Below.refl w.heap.size w)
 have hu := Tryz.underlying25
 obtain ⟨y, hy⟩ : ∃ x, Z0 (chkL l s = x) := ⟨_, ⟨rfl⟩⟩
 obtain ⟨x, hx⟩ : ∃ x, Z0 (numsC pt = x) := ⟨_, ⟨rfl⟩⟩
 replace hn := Z0.mk hn
 replace hn' := Z0.mk hn'
 go_enter Tryz.func20, Tryz.ntmps20
 go_upto_region 1 with (fail)
 refine al1 ?_
 intro W hb B0
 replace HB := fB HB hb
 replace hC := Z0.mk (Kd.C_below hC.out hb)
 replace hC' := Z0.mk (Kd.C_below hC'.out hb)
 obtain ⟨p0, p1, -, -⟩ := b2 B0
 clear hb
 by_cases h0 : y = 0
 · subst h0
   by_cases h1 : pt.length = l.length
   · have hm6 : n' ≤ 1000000 := by have := (of_chkL hy.out).1; have := hn'.out; omega
     have c1 : ((n' : Int) != n) = false := by rw [hn'.out, hn.out, h1]; exact bne_self_eq_false _
     by_cases h2 : x = 0
     · subst h2
       obtain ⟨v, hv⟩ : ∃ v, evalL l s pt = v := ⟨_, rfl⟩
       have hs1 : evalS l s pt = if ndR v ≤ 100 then (Sv.rtxt v, 0) else (⟨#[]⟩, 10) := by unfold evalS; rw [hy.out, if_pos rfl, if_pos h1, hx.out, if_pos rfl, hv]
       obtain ⟨a1, qs, q, rfl, rfl, a2, a3⟩ := of_chkL hy.out
       obtain ⟨ps, rfl, b2'⟩ := of_numsC hx.out
       have hv2 : (List.zipWith (· * ·) qs ps).foldl (· + ·) q = v := by rw [← hv]; unfold evalL; rw [rv_map, rv_map, rv_rtxt]
       have e5 : n = qs.length := by rw [hn.out, List.length_map]
       have e6 : n' = ps.length := by rw [hn'.out, List.length_map]
       rw [List.length_map, List.length_map] at h1
       rw [List.length_map] at a1
       obtain rfl : n' = n := by omega
       have e11 : ∀ p ∈ qs ++ [q], ndR p ≤ 100 := fun p hp => by
        rcases List.mem_append.1 hp with hp | hp
        · exact a2 p hp
        · rw [List.mem_singleton.1 hp]; exact a3
       have hvd : ndR v ≤ 100000 := by
        rw [← hv2]
        have h := ndR_fold (List.zipWith (· * ·) qs ps) q
        have h2 : ((List.zipWith (· * ·) qs ps).map fun t => ndR t + 1).sum ≤ 201 * (List.zipWith (· * ·) qs ps).length := sum_le201 _ fun t ht => by
         obtain ⟨i, hi, rfl⟩ := List.getElem_of_mem ht
         rw [List.getElem_zipWith]
         rw [List.length_zipWith] at hi
         have := ndR_mul qs[i] ps[i]
         have := a2 qs[i] (List.getElem_mem _)
         have := b2' ps[i] (List.getElem_mem _)
         omega
        rw [List.length_zipWith] at h2
        omega
       have T := fun (w : World) (hC : Z0 (Kd.string.C w A n' (qs.map Sv.rtxt))) (hC' : Z0 (Kd.string.C w B n' (ps.map Sv.rtxt))) => refAt_ok A B n' c c' qs ps q w hC hC' e5 e6 (by omega) e11 b2'
       rw [hv2] at T
       replace h1 := Z0.mk h1
       replace e5 := Z0.mk e5
       replace e6 := Z0.mk e6
       clear hv hv2
       obtain ⟨b, hb⟩ : ∃ b, Z0 (decide (ndR v ≤ 100) = b) := ⟨_, ⟨rfl⟩⟩
       by_cases h3 : ndR v ≤ 100
       · have hs' : evalS (qs.map Sv.rtxt) (Sv.rtxt q) (ps.map Sv.rtxt) = (Sv.rtxt v, 0) := by rw [hs1, if_pos h3]
         replace hs' := Z0.mk hs'
         obtain rfl : true = b := by rw [← hb.out, decide_eq_true h3]
         clear hs1
         go_wp2_with (first
          | ((with_reducible refine gc_ 54 rfl ?_); refine gL 27 Tryz.func54 (T _ hC hC') ?_; rintro _ w6 ⟨rfl, hb⟩; refine ⟨_, rfl, ?_⟩; replace HB := fB HB hb; clear hb p0 p1 B0)
          | (refine cG rfl ?_; intro w' hb; replace B0 := fk B0 hb; replace HB := fB HB hb; replace hC := Z0.mk (Kd.C_below hC.out hb); replace hC' := Z0.mk (Kd.C_below hC'.out hb); clear hb p0 p1; obtain ⟨p0, p1, -, -⟩ := b2 B0)
          | (refine cG rfl ?_; intro w' hb; replace HB := fB HB hb; clear hb))
         go_ret2
         rw [hs'.out]
         exact ⟨rfl, HB.out⟩
       · have hs' : evalS (qs.map Sv.rtxt) (Sv.rtxt q) (ps.map Sv.rtxt) = (⟨#[]⟩, 10) := by rw [hs1, if_neg h3]
         replace hs' := Z0.mk hs'
         obtain rfl : false = b := by rw [← hb.out, decide_eq_false h3]
         clear hs1
         go_wp2_with (first
          | ((with_reducible refine gc_ 54 rfl ?_); refine gL 27 Tryz.func54 (T _ hC hC') ?_; rintro _ w6 ⟨rfl, hb⟩; refine ⟨_, rfl, ?_⟩; replace HB := fB HB hb; clear hb p0 p1 B0)
          | (refine cG rfl ?_; intro w' hb; replace B0 := fk B0 hb; replace HB := fB HB hb; replace hC := Z0.mk (Kd.C_below hC.out hb); replace hC' := Z0.mk (Kd.C_below hC'.out hb); clear hb p0 p1; obtain ⟨p0, p1, -, -⟩ := b2 B0)
          | (refine cG rfl ?_; intro w' hb; replace HB := fB HB hb; clear hb))
         go_ret2
         rw [hs'.out]
         exact ⟨rfl, HB.out⟩
     · have hs' : Z0 (evalS l s pt = (⟨#[]⟩, x)) := ⟨by unfold evalS; rw [hy.out, if_pos rfl, if_pos h1, hx.out, if_neg h2]⟩
       have c2 : (x != 0) = true := bne_iff_ne.mpr h2
       replace h1 := Z0.mk h1
       go_wp2_with (refine cG rfl ?_; intro w' hb; replace B0 := fk B0 hb; replace HB := fB HB hb; replace hC := Z0.mk (Kd.C_below hC.out hb); replace hC' := Z0.mk (Kd.C_below hC'.out hb); clear hb p0 p1; obtain ⟨p0, p1, -, -⟩ := b2 B0)
       go_ret2
       rw [hs'.out]
       exact ⟨rfl, HB.out⟩
   · have hs' : Z0 (evalS l s pt = (⟨#[]⟩, 15)) := ⟨by unfold evalS; rw [hy.out, if_pos rfl, if_neg h1]⟩
     have c1 : ((n' : Int) != n) = true := bne_iff_ne.mpr (by rw [hn'.out, hn.out]; omega)
     go_wp2_with (refine cG rfl ?_; intro w' hb; replace B0 := fk B0 hb; replace HB := fB HB hb; replace hC := Z0.mk (Kd.C_below hC.out hb); replace hC' := Z0.mk (Kd.C_below hC'.out hb); clear hb p0 p1; obtain ⟨p0, p1, -, -⟩ := b2 B0)
     go_ret2
     rw [hs'.out]
     exact ⟨rfl, HB.out⟩
 · have hs' : Z0 (evalS l s pt = (⟨#[]⟩, y)) := ⟨by unfold evalS; rw [hy.out, if_neg h0]⟩
   have h0' : (y != 0) = true := bne_iff_ne.mpr h0
   go_wp2_with (refine cG rfl ?_; intro w' hb; replace B0 := fk B0 hb; replace HB := fB HB hb; replace hC := Z0.mk (Kd.C_below hC.out hb); replace hC' := Z0.mk (Kd.C_below hC'.out hb); clear hb p0 p1; obtain ⟨p0, p1, -, -⟩ := b2 B0)
   go_ret2
   rw [hs'.out]
   exact ⟨rfl, HB.out⟩
instance nh_Eval : Ctr 20 (type_of% @refEval_ok) := ⟨@refEval_ok, _, Tryz.func20, by kernel_rfl, rfl⟩
theorem refUsed_ok (A : Option Addr) (n c : Nat) (l : List ByteArray) (s : ByteArray) (w : World) (hC : Z0 (Kd.string.C w A n l)) (hn : n = l.length) (hm : n ≤ 60) :
  Calls Tryz.prog 65 #[.agg #[.slice A n c, .string s]] w fun e w' => e = .returned (.int .i64 (maskT (tmL l l.length))) ∧ Below w.heap.size w w' := by
 have HB := Z0.mk (Below.refl w.heap.size w)
 have hCw := hC
 replace hn := Z0.mk hn
 rw [← hn.out]
 go_enter Tryz.func65, Tryz.ntmps65
 go_upto_region 1 with (fail)
 refine al1 ?_
 intro W hb B0
 replace HB := fB HB hb
 clear hb
 go_wp2
 go_loopw [3, 4] (fun v i wr => ∃ j : Nat, j ≤ n ∧ v = .int .i64 (maskT (tmL l j)) ∧ i = .int .i64 j ∧ Z0 (wr.heap[w.heap.size]? = some (.cells #[.slice A n c, .string s] 25 (0, 0))) ∧ Z0 (Below w.heap.size w wr))
  (fun _ i _ => n - (Go.RowKit.intOf i).toNat)
 case atStart => exact ⟨0, by omega, rfl, rfl, B0, HB⟩
 clear B0 HB hC
 obtain ⟨j, hj, rfl, rfl, B0, HB⟩ := hrel
 obtain ⟨p0, p1, -, -⟩ := b2 B0
 rcases Nat.lt_or_ge j n with h4 | h4
 · have c4 : decide ((j : Int) < n) = true := decide_eq_true (by omega)
   have hjl : j < l.length := by have := hn.out; omega
   obtain ⟨ad, rfl, hxx, x1, x2⟩ := asI (Kd.C_below hCw.out HB.out) (j : Int) (by omega) (by omega)
   rw [Int.toNat_natCast, show rdOf ByteArray.empty l (j : Int) = l[j] by simp [rdOf, hjl]] at hxx
   by_cases h5 : l[j] = ⟨#[48]⟩
   · have c5 : ((l[j]).toList == ([48] : List UInt8)) = true := by rw [h5, ByteArray.toList_eq]; rfl
     have hz := tmL_zero hjl h5
     replace h5 := Z0.mk h5
     replace hz := Z0.mk hz
     go_wp2
     refine ⟨⟨j + 1, by omega, by rw [hz.out], by simp, B0, HB⟩, by simp [Go.RowKit.intOf]; omega⟩
   · have c5 : ((l[j]).toList == ([48] : List UInt8)) = false := beq_eq_false_iff_ne.mpr (fun e => h5 (ba_ext (by rw [← ByteArray.toList_eq, e])))
     have hz := tmL_succ hjl h5
     replace hz := Z0.mk hz
     clear h5
     have hj0 : decide ((j : Int) < 0) = false := decide_eq_false (by omega)
     go_wp2
     refine ⟨⟨j + 1, by omega, ?_, by simp, B0, HB⟩, by simp [Go.RowKit.intOf]; omega⟩
     rw [hz.out, maskT_snoc, ← orI_eq, Nat.min_eq_left (by show j ≤ 64; omega)]
 obtain rfl : j = n := by omega
 have c4 : decide ((j : Int) < j) = false := decide_eq_false (by omega)
 go_wp2
 go_ret
 exact ⟨rfl, HB.out⟩
instance ni_Used : Ctr 65 (type_of% @refUsed_ok) := ⟨@refUsed_ok, _, Tryz.func65, by kernel_rfl, rfl⟩
theorem refVars_ok (A : Option Addr) (n c : Nat) (l : List ByteArray) (s : ByteArray) (w : World) (hC : Z0 (Kd.string.C w A n l)) (hn : n = l.length) (hO : ∀ s ∈ l, s.size ≤ 10000000000) (hs : s.size ≤ 10000000000) :
  Calls Tryz.prog 26 #[.agg #[.slice A n c, .string s]] w fun e w' => e = .returned (.tuple #[.int .i64 (varsM l s).1, .int .i64 (varsM l s).2]) ∧ Below w.heap.size w w' := by
 have HB := Z0.mk (Below.refl w.heap.size w)
 have hu := Tryz.underlying25
 obtain ⟨y, hy⟩ : ∃ x, Z0 (chkL l s = x) := ⟨_, ⟨rfl⟩⟩
 replace hn := Z0.mk hn
 go_enter Tryz.func26, Tryz.ntmps26
 go_upto_region 1 with (fail)
 refine al1 ?_
 intro W hb B0
 replace HB := fB HB hb
 replace hC := Z0.mk (Kd.C_below hC.out hb)
 obtain ⟨p0, p1, -, -⟩ := b2 B0
 clear hb
 by_cases h0 : y = 0
 · subst h0
   have e1 : Z0 (varsM l s = (maskT (tmL l l.length), 0)) := ⟨if_pos hy.out⟩
   have hm6 : n ≤ 60 := by have := (of_chkL hy.out).1; have := hn.out; omega
   go_wp2_with (first
    | ((with_reducible refine gc_ 65 rfl ?_); refine gL 11 Tryz.func65 (refUsed_ok A n c l s _ hC hn.out hm6) ?_; rintro _ w6 ⟨rfl, hb⟩; refine ⟨_, rfl, ?_⟩; replace HB := fB HB hb; clear hb p0 p1 B0)
    | (refine cG rfl ?_; intro w' hb; replace B0 := fk B0 hb; replace HB := fB HB hb; replace hC := Z0.mk (Kd.C_below hC.out hb); clear hb p0 p1; obtain ⟨p0, p1, -, -⟩ := b2 B0))
   go_ret2
   rw [e1.out]
   exact ⟨rfl, HB.out⟩
 · have e1 : Z0 (varsM l s = (0, y)) := ⟨by unfold varsM; rw [if_neg (by rw [hy.out]; exact h0), hy.out]⟩
   have h0' : (y != 0) = true := bne_iff_ne.mpr h0
   go_wp2_with (refine cG rfl ?_; intro w' hb; replace HB := fB HB hb; clear hb p0 p1 B0)
   go_ret2
   rw [e1.out]
   exact ⟨rfl, HB.out⟩
instance ni_Vars : Ctr 26 (type_of% @refVars_ok) := ⟨@refVars_ok, _, Tryz.func26, by kernel_rfl, rfl⟩
theorem SameRats_ok (A B : Option Addr) (n n' c c' : Nat) (l : List ByteArray) (w : World) (hC : Z0 (Kd.string.C w A n l)) (hC' : Z0 (Kd.string.C w B n' l)) (hn : n = l.length) (hn' : n' = n) (hm : n ≤ 1000) :
  Calls Tryz.prog 42 #[.slice A n c, .slice B n' c'] w fun e w' => e = .returned (.bool true) ∧ Below w.heap.size w w' := by
 subst hn'
 have HB := Z0.mk (Below.refl w.heap.size w)
 have hCw := hC
 have hCw' := hC'
 replace hn := Z0.mk hn
 go_enter Tryz.func42, Tryz.ntmps42
 have c1 : ((n' : Int) != n') = false := bne_self_eq_false _
 go_wp2
 go_loopw [5] (fun i wr => ∃ j : Nat, j ≤ n' ∧ i = .int .i64 j ∧ Z0 (Below w.heap.size w wr))
  (fun i _ => n' - (Go.RowKit.intOf i).toNat)
 case atStart => exact ⟨0, by omega, rfl, HB⟩
 clear HB hC hC'
 obtain ⟨j, hj, rfl, HB⟩ := hrel
 rcases Nat.lt_or_ge j n' with h4 | h4
 · have c4 : decide ((j : Int) < n') = true := decide_eq_true (by omega)
   have hjl : j < l.length := by have := hn.out; omega
   obtain ⟨x, hx⟩ : ∃ x, l[j] = x := ⟨_, rfl⟩
   obtain ⟨ad, rfl, hxx, x1, x2⟩ := asI (Kd.C_below hCw.out HB.out) (j : Int) (by omega) (by omega)
   rw [Int.toNat_natCast, show rdOf ByteArray.empty l (j : Int) = x by rw [← hx]; simp [rdOf, hjl]] at hxx
   obtain ⟨ae, rfl, hyy, -, -⟩ := asI (Kd.C_below hCw'.out HB.out) (j : Int) (by omega) (by omega)
   rw [Int.toNat_natCast, show rdOf ByteArray.empty l (j : Int) = x by rw [← hx]; simp [rdOf, hjl]] at hyy
   clear hx
   go_wp2
   have hd := (Below.refl wr.heap.size wr).drew
   refine start_ (n := 9) (S := fun w' => w'.cell? (ad.add j) = some (.string x) ∧ w'.cell? (ae.add j) = some (.string x)) (ds := []) _ (by kernel_rfl) rfl rfl ⟨hxx, hyy⟩ (fun hHeld => ?_)
   refine tp 0 17 ?_
   refine tp 1 18 ?_
   refine tp 2 19 ?_
   refine tk 3 20 (by exact hHeld) ?_
   refine tp 4 21 ?_
   refine tp 5 22 ?_
   refine tp 6 23 ?_
   refine tk 7 24 (by exact hHeld) ?_
   refine tp 8 25 ?_
   refine done_ (by kernel_rfl) ?_
   have HBd := Z0.mk (below_step HB.out hd)
   clear hHeld hd
   go_wp2
   refine ⟨⟨j + 1, by omega, by simp, HBd⟩, by simp [Go.RowKit.intOf]; omega⟩
 obtain rfl : j = n' := by omega
 have c4 : decide ((j : Int) < j) = false := decide_eq_false (by omega)
 go_wp2
 go_ret
 exact ⟨rfl, HB.out⟩
theorem SameInts_ok (A B : Option Addr) (n n' c c' : Nat) (l : List ByteArray) (w : World) (hC : Z0 (Kd.string.C w A n l)) (hC' : Z0 (Kd.string.C w B n' l)) (hn : n = l.length) (hn' : n' = n) (hm : n ≤ 1000) :
  Calls Tryz.prog 29 #[.slice A n c, .slice B n' c'] w fun e w' => e = .returned (.bool true) ∧ Below w.heap.size w w' := by
 subst hn'
 have HB := Z0.mk (Below.refl w.heap.size w)
 have hCw := hC
 have hCw' := hC'
 replace hn := Z0.mk hn
 go_enter Tryz.func29, Tryz.ntmps29
 have c1 : ((n' : Int) != n') = false := bne_self_eq_false _
 go_wp2
 go_loopw [5] (fun i wr => ∃ j : Nat, j ≤ n' ∧ i = .int .i64 j ∧ Z0 (Below w.heap.size w wr))
  (fun i _ => n' - (Go.RowKit.intOf i).toNat)
 case atStart => exact ⟨0, by omega, rfl, HB⟩
 clear HB hC hC'
 obtain ⟨j, hj, rfl, HB⟩ := hrel
 rcases Nat.lt_or_ge j n' with h4 | h4
 · have c4 : decide ((j : Int) < n') = true := decide_eq_true (by omega)
   have hjl : j < l.length := by have := hn.out; omega
   obtain ⟨x, hx⟩ : ∃ x, l[j] = x := ⟨_, rfl⟩
   obtain ⟨ad, rfl, hxx, x1, x2⟩ := asI (Kd.C_below hCw.out HB.out) (j : Int) (by omega) (by omega)
   rw [Int.toNat_natCast, show rdOf ByteArray.empty l (j : Int) = x by rw [← hx]; simp [rdOf, hjl]] at hxx
   obtain ⟨ae, rfl, hyy, -, -⟩ := asI (Kd.C_below hCw'.out HB.out) (j : Int) (by omega) (by omega)
   rw [Int.toNat_natCast, show rdOf ByteArray.empty l (j : Int) = x by rw [← hx]; simp [rdOf, hjl]] at hyy
   clear hx
   go_wp2
   have hd := (Below.refl wr.heap.size wr).drew
   refine start_ (n := 9) (S := fun w' => w'.cell? (ad.add j) = some (.string x) ∧ w'.cell? (ae.add j) = some (.string x)) (ds := []) _ (by kernel_rfl) rfl rfl ⟨hxx, hyy⟩ (fun hHeld => ?_)
   refine tp 0 17 ?_
   refine tp 1 18 ?_
   refine tp 2 19 ?_
   refine tk 3 20 (by exact hHeld) ?_
   refine tp 4 21 ?_
   refine tp 5 22 ?_
   refine tp 6 23 ?_
   refine tk 7 24 (by exact hHeld) ?_
   refine tp 8 25 ?_
   refine done_ (by kernel_rfl) ?_
   have HBd := Z0.mk (below_step HB.out hd)
   clear hHeld hd
   go_wp2
   refine ⟨⟨j + 1, by omega, by simp, HBd⟩, by simp [Go.RowKit.intOf]; omega⟩
 obtain rfl : j = n' := by omega
 have c4 : decide ((j : Int) < j) = false := decide_eq_false (by omega)
 go_wp2
 go_ret
 exact ⟨rfl, HB.out⟩
theorem Same_ok (A B : Option Addr) (n n' c c' : Nat) (l : List ByteArray) (s : ByteArray) (w : World) (hC : Z0 (Kd.string.C w A n l)) (hC' : Z0 (Kd.string.C w B n' l)) (hn : n = l.length) (hn' : n' = n) (hm : n ≤ 1000) :
  Calls Tryz.prog 12 #[.agg #[.slice A n c, .string s], .agg #[.slice B n' c', .string s]] w fun e w' => e = .returned (.bool true) ∧ Below w.heap.size w w' := by
 subst hn'
 have HB := Z0.mk (Below.refl w.heap.size w)
 have hu := Tryz.underlying25
 replace hn := Z0.mk hn
 go_enter Tryz.func12, Tryz.ntmps12
 go_upto_region 1 with (fail)
 refine al2 ?_
 intro W hb B0 B1
 replace HB := fB HB hb
 replace hC := Z0.mk (Kd.C_below hC.out hb)
 replace hC' := Z0.mk (Kd.C_below hC'.out hb)
 obtain ⟨p0, p1, -, -⟩ := b2 B0
 obtain ⟨q0, q1, -, -⟩ := b2 B1
 clear hb
 go_wp2_with ((with_reducible refine gc_ 42 rfl ?_); refine gL 9 Tryz.func42 (SameRats_ok A B n' n' c c' l _ hC hC' hn.out rfl hm) ?_; rintro _ w6 ⟨rfl, hb⟩; refine ⟨_, rfl, ?_⟩; replace HB := fB HB hb; replace B0 := fk B0 hb; replace B1 := fk B1 hb; clear hb p0 p1 q0 q1; obtain ⟨p0, p1, -, -⟩ := b2 B0; obtain ⟨q0, q1, -, -⟩ := b2 B1)
 go_ret
 exact ⟨by simp, HB.out⟩
end Go.Proofs.YtgihllbgjpcapaaGreatDoor.PA
