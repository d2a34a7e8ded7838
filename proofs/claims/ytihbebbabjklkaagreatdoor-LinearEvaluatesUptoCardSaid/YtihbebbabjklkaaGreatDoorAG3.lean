import Derived.Test.YtihbebbabjklkaaGreatDoorAG1
import Derived.Test.YtihbebbabjklkaaGreatDoorAD
import Derived.Test.YtihbebbabjklkaaGreatDoorAG2
import Derived.LoopN
import Derived.Deep.RegionHeld3
import Derived.WideLaws
import Derived.Shelf.Strings.BuilderK
import Derived.Test.YtihbebbabjklkaaGreatDoorProg
import Derived.Lib.OthersKept
set_option maxHeartbeats 8000000
set_option maxRecDepth 100000
set_option linter.unusedVariables false
namespace Go.Proofs.YtihbebbabjklkaaGreatDoor.PA
set_option linter.unusedVariables false
set_option linter.unusedSimpArgs false
open Go.RowKit Go.Proofs.WWords Go.Proofs.WLast Go.Proofs.WMore
theorem bIminus.calls (k : Nat) (A0 : Option Addr) (c0 : Nat) (l0 : List Int) (A1 : Option Addr) (c1 : Nat) (l1 : List Int) (r : List Int) (w : World) (hr0 : Kd.C (Kd.int .i64) w A0 l0.length l0) (hc0 : l0.length ≤ c0) (hr1 : Kd.C (Kd.int .i64) w A1 l1.length l1) (hc1 : l1.length ≤ c1) (h : bIminus.f k l0 l1 = some r) :
  Calls Tryz.prog 140 #[.slice A0 l0.length c0, .slice A1 l1.length c1] w fun e w' => ∃ v0_ : Value, e = .returned (v0_) ∧ Kd.R (Kd.int .i64) 3 w' w.heap.size (fun _ => True) v0_ r ∧ Below w.heap.size w w' := by
 have HB := Z0.mk (Below.refl w.heap.size w)
 unfold bIminus.f at h
 obtain ⟨n0, -, h⟩ := gd h
 obtain ⟨n1, -, h⟩ := gd h
 obtain ⟨y, hy, h⟩ := yb h
 have hu := Tryz.underlying35
 replace hr0 := Z0.mk hr0
 replace hr1 := Z0.mk hr1
 have H' := Z0.mk h
 clear h hc0 hc1
 go_enter Tryz.func140, Tryz.ntmps140
 go_wp2_with (refine mkI (l0.length : Int) y rfl n0 n1 hy ?_; intro A c w1 hb HO; replace HO := Z0.mk (Kd.R_lower HO.out (below_size bqs)); replace HB := fB HB hb; clear hb)
 go_loopg [6, 14] k (fun kq v6 v14 w' => ∃ (x5 : List Int) (x6 i : Int), v6 = .int .i64 x6 ∧ v14 = .int .i64 i ∧ Z0 (bIminus.l0 kq l0 l1 x5 x6 (y.length : Int) i = some r) ∧ kq ≤ k ∧ Z0 (Kd.R (Kd.int .i64) 3 w' w.heap.size (fun _ => True) (.slice A y.length c) x5) ∧ Z0 (Below w.heap.size w w'))
 case atStart => exact ⟨y, 0, 0, rfl, rfl, H', Nat.le_refl _, ⟨rq HO⟩, ⟨bqs⟩⟩
 clear H' HO HB hy n0 n1
 obtain ⟨x5, x6, i, rfl, rfl, H, hk, HO, HB⟩ := hrel
 have hl := (Kd.R_reads' HO.out).1
 cases gk with
 | zero => cases H.out
 | succ k1 =>
 replace H := H.out
 unfold bIminus.l0 at H
 simp only [← hl] at H
 clear hl
 rcases jd H with ⟨-, c1, H⟩ | ⟨-, c1, H⟩
 · repeat' (first | ((with_reducible have Z := gd H); obtain ⟨-, _, H⟩ := Z) | ((with_reducible have Z := jd H); rcases Z with ⟨-, _, H⟩ | ⟨-, _, H⟩))
   all_goals (
    obtain ⟨g, rfl, c3, c4, c5, c6⟩ := ownF HO i od od
    (try (have Z := atB HB hr0.out i; obtain ⟨a0, rfl, r1, r2, r3⟩ := Z))
    (try (have Z := atB HB hr1.out i; obtain ⟨a1, rfl, r4, r5, r6⟩ := Z))
    have H' := Z0.mk H
    clear H
    go_wp2_with (refine stI i _ HO HB rfl ?_; intro w2 HO' hg HB')
    go_roundg k1
    case measure => omega
    case rel => exact ⟨_, _, _, rfl, rfl, H', by omega, HO', HB'⟩)
 · obtain ⟨t, A1, H⟩ := bnd H
   cases H
   go_wp2_with (refine cX rfl ?_; rintro _ w2 ⟨rfl, HO', hb⟩; refine ⟨_, rfl, ?_⟩; replace HB := fB HB hb)
   go_ret
   exact ⟨_, rfl, HO'.out, HB.out⟩
instance : Ctr 104 (type_of% @divC) := ⟨@divC, _, Tryz.func104, by kernel_rfl, rfl⟩
instance : Ctr 139 (type_of% @bIplus.calls) := ⟨@bIplus.calls, _, Tryz.func139, by kernel_rfl, rfl⟩
instance : Ctr 140 (type_of% @bIminus.calls) := ⟨@bIminus.calls, _, Tryz.func140, by kernel_rfl, rfl⟩
theorem comC (k : Nat) (A0 : Option Addr) (c0 : Nat) (l0 : List Int) (A1 : Option Addr) (c1 : Nat) (l1 r : List Int) (w : World) (h0 : Kd.C (Kd.int .i64) w A0 l0.length l0) (hc0 : l0.length ≤ c0) (h1 : Kd.C (Kd.int .i64) w A1 l1.length l1) (hc1 : l1.length ≤ c1) (h : bIcommon.f k l0 l1 = some r) :
  Calls Tryz.prog 105 #[.slice A0 l0.length c0, .slice A1 l1.length c1] w fun e w' => ∃ X d, e = .returned (.slice X r.length d) ∧ Kd.C (Kd.int .i64) w' X r.length r ∧ r.length ≤ d ∧ Below w.heap.size w w' := by
 have HB := Z0.mk (Below.refl w.heap.size w)
 unfold bIcommon.f at h
 have H' := Z0.mk h
 clear h
 go_enter Tryz.func105, Tryz.ntmps105
 go_wp2
 go_loopg [0, 1] k (fun kq v0 v1 w' => ∃ A0 c0 x0 A1 c1 x1, v0 = .slice A0 (List.length x0) c0 ∧ v1 = .slice A1 (List.length x1) c1 ∧ Z0 (bIcommon.l0 kq x0 x1 = some r) ∧ kq ≤ k ∧ Kd.C (Kd.int .i64) w' A0 x0.length x0 ∧ x0.length ≤ c0 ∧ Kd.C (Kd.int .i64) w' A1 x1.length x1 ∧ x1.length ≤ c1 ∧ Z0 (Below w.heap.size w w'))
 case atStart => exact ⟨_, _, _, _, _, _, rfl, rfl, H', Nat.le_refl _, cq h0, hc0, cq h1, hc1, ⟨bqs⟩⟩
 clear H' h0 hc0 h1 hc1 HB
 obtain ⟨A0, c0, x0, A1, c1, x1, rfl, rfl, H, hk, h0, hc0, h1, hc1, HB⟩ := hrel
 cases gk with
 | zero => cases H.out
 | succ k1 =>
 replace H := H.out
 unfold bIcommon.l0 at H
 rcases jg H with ⟨b1, b2, H⟩ | ⟨b1, b2, H⟩
 · have b3 : decide (0 < x1.length) = true := decide_eq_true (by omega)
   obtain ⟨⟨q, y⟩, A3, H⟩ := bnd H
   have H' := Z0.mk H
   clear H
   go_wp2_with (refine cX rfl ?_; rintro _ w2 ⟨X1, d1, X2, d2, rfl, -, -, C2, e2, hb⟩; refine ⟨_, rfl, ?_⟩; replace h1 := Kd.C_below h1 hb; replace HB := fB HB hb; clear hb)
   go_roundg k1
   case measure => omega
   case rel => exact ⟨_, _, _, _, _, _, rfl, rfl, H', by omega, cq h1, hc1, cq C2, e2, ⟨bqs⟩⟩
 · have b3 : decide (0 < x1.length) = false := decide_eq_false (by omega)
   cases H
   go_wp2
   go_ret
   exact ⟨_, _, rfl, cq h0, hc0, bqs⟩
theorem quoC (k : Nat) (a0 : Bool) (A0 : Option Addr) (c0 : Nat) (l0 : List Int) (a1 : Bool) (A1 : Option Addr) (c1 : Nat) (l1 : List Int) (r1 : Bool) (r2 : List Int) (r3 : Bool) (r4 : List Int) (w : World) (h0 : Kd.C (Kd.int .i64) w A0 l0.length l0) (hc0 : l0.length ≤ c0) (h1 : Kd.C (Kd.int .i64) w A1 l1.length l1) (hc1 : l1.length ≤ c1) (h : bIquotient.f k a0 l0 a1 l1 = some (r1, r2, r3, r4)) :
  Calls Tryz.prog 100 #[.agg #[.bool a0, .slice A0 l0.length c0], .agg #[.bool a1, .slice A1 l1.length c1]] w fun e w' => ∃ X1 d1 X2 d2, e = .returned (.tuple #[.agg #[.bool r1, .slice X1 r2.length d1], .agg #[.bool r3, .slice X2 r4.length d2]]) ∧ Kd.C (Kd.int .i64) w' X1 r2.length r2 ∧ r2.length ≤ d1 ∧ Kd.C (Kd.int .i64) w' X2 r4.length r4 ∧ r4.length ≤ d2 ∧ Below w.heap.size w w' := by
 have HB := Z0.mk (Below.refl w.heap.size w)
 have hu := Tryz.underlying122
 unfold bIquotient.f at h
 obtain ⟨⟨q, r⟩, A3, h⟩ := bnd h
 dsimp only at h
 go_enter Tryz.func100, Tryz.ntmps100
 go_upto_region 2 with (first
  | ((with_reducible refine gd_ 2 rfl ?_); refine bxE 2 #[.bool a0, .slice A0 l0.length c0] 122 ?_; intro g0 hg w0 hbox hb; have B0 := Z0.mk hbox; replace HB := fB HB hb; clear hb hbox hg)
  | ((with_reducible refine gd_ 3 rfl ?_); refine bxE 3 #[.bool a1, .slice A1 l1.length c1] 122 ?_; intro g1 hg w1 hbox hb; have B1 := Z0.mk hbox; replace B0 := fk B0 hb; replace HB := fB HB hb; clear hb hbox hg)
  | ((with_reducible refine gd_ 4 rfl ?_); refine bxE 4 #[.bool false, .slice none 0 0] 122 ?_; intro g2 hg w2 hbox hb; have B2 := Z0.mk hbox; have G2 := fE HB hg; have N12 := fl B1 hg; replace B0 := fk B0 hb; replace B1 := fk B1 hb; replace HB := fB HB hb; clear hb hbox hg)
  | ((with_reducible refine gd_ 5 rfl ?_); refine bxE 5 #[.bool false, .slice none 0 0] 122 ?_; intro g3 hg w3 hbox hb; have B3 := Z0.mk hbox; have G3 := fE HB hg; have N13 := fl B1 hg; have NB := fl B2 hg; replace B0 := fk B0 hb; replace B1 := fk B1 hb; replace B2 := fk B2 hb; replace HB := fB HB hb; clear hb hbox hg; obtain ⟨p0, p1, -, -⟩ := b2 B0; obtain ⟨q0, q1, -, -⟩ := b2 B1; have hB := HB.out)
  | (refine cX rfl ?_; rintro _ w5 ⟨X1, d1, X2, d2, rfl, C1, e1, C2, e2, hb⟩; refine ⟨_, rfl, ?_⟩; replace B0 := fk B0 hb; replace B1 := fk B1 hb; replace B2 := fk B2 hb; replace B3 := fk B3 hb; replace HB := fB HB hb; clear hb hB p0 p1 q0 q1; obtain ⟨p0, p1, -, -⟩ := b2 B0; obtain ⟨q0, q1, -, -⟩ := b2 B1))
 have hB := HB.out
 have nb := NB.out
 have nb' := nb.symm
 have n12 := N12.out
 have n13 := N13.out
 replace h1 := Kd.C_below h1 HB.out
 rcases jn h with ⟨e, h⟩ | ⟨e, h⟩
 rotate_left
 replace e := Bool.eq_false_iff.mpr e
 rcases jg h with ⟨b1, b3, h⟩ | ⟨b1, b3, h⟩
 have b4 : decide (0 < r.length) = true := decide_eq_true (by omega)
 rotate_left
 have b4 : decide (0 < r.length) = false := decide_eq_false (by omega)
 all_goals (
  first
  | (have Z := bnd h
     obtain ⟨q', A4, h⟩ := Z
     obtain ⟨r', A5, h⟩ := bnd h
     go_wp2
     go_region_held3 (fun w' => w'.cell? ⟨g1, 1, none⟩ = some (.slice A1 l1.length c1))
      (exact (blk_cell (by repeat (first | exact B1.out | refine blk_drew ?_ | refine blk_alloc ?_ _)) 1).trans rfl)
      (first
      | (go_at_call 139; refine (bIplus.calls k _ _ q _ _ [1] q' _ (cq C1) e1 (by first | exact litI _ _ _ | exact Kd.C_drew (litI _ _ _)) (Nat.le_refl _) A4.out).mono ?_; rintro _ w7 ⟨v7, rfl, ho, hb⟩; obtain ⟨X1, d1, rfl, e1, C1⟩ := Kd.R_reads ho; replace C2 := Kd.C_below (cq C2) hb; replace h1 := Kd.C_below (cq h1) hb; replace B1 := fk B1 hb; replace B2 := fk B2 hb; replace B3 := fk B3 hb; replace HB := fB HB hb; clear hb ho)
      | (go_at_call 140; refine (bIminus.calls k _ _ l1 _ _ r r' _ (cq h1) hc1 (cq C2) e2 A5.out).mono ?_; rintro _ w8 ⟨v8, rfl, ho, hb⟩; obtain ⟨X2, d2, rfl, e2, C2⟩ := Kd.R_reads ho; replace C1 := Kd.C_below (cq C1) hb; replace B1 := fk B1 hb; replace B2 := fk B2 hb; replace B3 := fk B3 hb; replace HB := fB HB hb; clear hb ho)))
  | skip
  cases h
  go_wp2
  try clear p0 p1 q0 q1
  obtain ⟨q0, q1, -, -⟩ := b2 B1
  obtain ⟨z0, z1, s0, s1⟩ := b2 B2
  obtain ⟨z2, z3, s2, s3⟩ := b2 B3
  go_region_held3 (fun w' => w'.cell? ⟨g1, 0, none⟩ = some (.bool a1))
   (first | exact q0 | exact keep2 q0 n12 | exact keep2 (W := World.setCell _ _ _) (keep2 q0 n12) n13)
   (fail)
  all_goals go_wp2
  refine bodyPost_ret (results_cc rfl _ _ g2 g3 122 122 _ _ (0, 0) (0, 0) _ _ rfl (blk_drew (put22 nb B2.out B3.out).1) hu rfl (by kernel_rfl) rfl (blk_drew (put22 nb B2.out B3.out).2) hu rfl (by kernel_rfl)) rfl ?_
  exact ⟨_, _, _, _, rfl, Kd.C_drew (C_set4 C1 nb B2.out B3.out), e1, Kd.C_drew (C_set4 C2 nb B2.out B3.out), e2, below_drew (below_set (below_set (below_set (below_set HB.out G2.out) G2.out) G3.out) G3.out)⟩)
end Go.Proofs.YtihbebbabjklkaaGreatDoor.PA
set_option linter.unusedVariables false
namespace Go.Proofs.YtihbebbabjklkaaGreatDoor
open Go.RowKit Go.Shelf Go.Proofs.WWords Go.Proofs.WLast Go.Proofs.WMore PA
set_option linter.unusedVariables false
set_option linter.unusedSimpArgs false
theorem chunks_calls (a0 : ByteArray) (w : World) :
    Calls Tryz.prog 180 #[.string a0] w fun e w' => ∃ g, e = .returned (.func (.func 203) #[] #[.pointer (some ⟨g, 0, none⟩)]) ∧ Boxed w' g 9 (.string a0) ∧ Below w.heap.size w w' := by
 go_enter Tryz.func180, Tryz.ntmps180
 go_wp2
 go_ret
 exact ⟨w.heap.size, rfl, Boxed.new _ _ _, (Below.refl _ w).alloc (Nat.le_refl _) _⟩
theorem slices_Collect_int.calls (a0 : ByteArray) (r : List Int) (g : Nat) (w : World) (hb : Boxed w g 9 (.string a0)) (h : slices_Collect_int.f a0 = some r) :
    Calls Tryz.prog 179 #[.func (.func 203) #[] #[.pointer (some ⟨g, 0, none⟩)]] w fun e w' => ∃ v0_ : Value, e = .returned (v0_) ∧ Kd.R (Kd.int .i64) 3 w' w.heap.size (fun _ => True) v0_ r ∧ Below w.heap.size w w' := by
 unfold slices_Collect_int.f at h
 split at h
 ·rename_i hc
  obtain rfl := Option.some.inj h
  clear h
  go_enter Tryz.func179, Tryz.ntmps179
  go_wp2_with ((with_reducible refine gc_ 202 rfl ?_); refine goesL_ (some 4) rfl rfl Tryz.func202 (by kernel_rfl) rfl #[.slice none 0 0, .func (.func 203) #[] #[.pointer (some ⟨g, 0, none⟩)]] rfl (by (try simp only [List.map_toArray, List.map_cons, List.map_nil]); first | done | rfl) ?_
               refine (callsIn_wide.1 (append_in 3 (by omega) g a0 ((a0.size + 8) / 9) (by omega) (by omega) hc.1 hc.2 w hb)).mono ?_
               rintro e w' ⟨v, rfl, hr, hB⟩; refine ⟨_, rfl, ?_⟩)
  go_ret
  refine ⟨_, rfl, Kd.R_of_own (enc := .int .i64) ?_ (fun _ _ => trivial), hB⟩
  rw [gk_length]
  exact hr
 cases h
end Go.Proofs.YtihbebbabjklkaaGreatDoor
namespace Go.Proofs.YtihbebbabjklkaaGreatDoor.PA
open Go.RowKit Go.Shelf Go.Proofs.WWords Go.Proofs.WLast Go.Proofs.WMore
theorem bIread.calls (k : Nat) (a0 : ByteArray) (r1 : Bool) (r2 : List Int) (w : World) (h : bIread.f k a0 = some (r1, r2)) :
  Calls Tryz.prog 132 #[.string a0] w fun e w' => ∃ X c, e = .returned (.agg #[.bool r1, .slice X r2.length c]) ∧ Kd.C (Kd.int .i64) w' X r2.length r2 ∧ r2.length ≤ c ∧ Below w.heap.size w w' := by
 have hu := Tryz.underlying122
 have HB := Z0.mk (Below.refl w.heap.size w)
 unfold bIread.f at h
 obtain ⟨⟨d, n⟩, A2, h⟩ := bnd h
 dsimp only at h
 obtain ⟨l, A3, h⟩ := bnd h
 obtain ⟨m, A4, h⟩ := bnd h
 cases h
 go_enter Tryz.func132, Tryz.ntmps132
 go_wp2_with (first
  | ((with_reducible refine gd_ 2 rfl ?_); refine bxE 2 #[.bool false, .slice none 0 0] 122 ?_; intro g hg w1 hbox hb; have B := Z0.mk hbox; have G := fE HB hg; replace HB := fB HB hb; clear hb hbox hg)
  | ((with_reducible refine gc_ 178 rfl ?_); refine gL 7 Tryz.func178 (strings_CutPrefix.calls _ _ _ _ _ A2.out) ?_; rintro _ w6 ⟨rfl, hb⟩; refine ⟨_, rfl, ?_⟩; replace B := fk B hb; replace HB := fB HB hb; clear hb)
  | ((with_reducible refine gc_ 180 rfl ?_); refine gL 12 Tryz.func180 (chunks_calls d _) ?_; rintro _ w7 ⟨gq, rfl, hbq, hb⟩; refine ⟨_, rfl, ?_⟩; replace B := fk B hb; replace HB := fB HB hb; have HQ := Z0.mk hbq; clear hb hbq)
  | ((with_reducible refine gc_ 179 rfl ?_); refine gL 13 Tryz.func179 (slices_Collect_int.calls _ _ _ _ HQ.out A3.out) ?_; rintro _ w8 ⟨v, rfl, ho, hb⟩; refine ⟨_, rfl, ?_⟩; replace B := fk B hb; replace HB := fB HB hb; obtain ⟨A8, c8, rfl⟩ := Kd.R_slice ho; replace ho := Z0.mk ho; clear hb)
  | ((with_reducible refine gc_ 144 rfl ?_); refine cX rfl ?_; rintro _ w9 ⟨rfl, HO, hb⟩; refine ⟨_, rfl, ?_⟩; replace B := fk B hb; replace HB := fB HB hb; clear hb; obtain ⟨z0, z1, s0, s1⟩ := b2 B))
 obtain ⟨-, hc, C⟩ := Kd.R_reads' HO.out
 refine bodyPost_ret (results_cell_row rfl _ _ g 122 #[.bool r1, .slice A8 r2.length c8] (0, 0) _ rfl (blk_put (blk_put B.out 0 _ rfl) 1 _ rfl) hu rfl (by kernel_rfl)) rfl ?_
 exact ⟨_, _, rfl, C_set2 C B.out, hc, below_set (below_set HB.out G.out) G.out⟩
end Go.Proofs.YtihbebbabjklkaaGreatDoor.PA
set_option linter.unusedVariables false
namespace Go.Proofs.YtihbebbabjklkaaGreatDoor
open Go.RowKit Go.Shelf Go.Proofs.WWords Go.Proofs.WLast Go.Proofs.WMore PA
set_option linter.unusedVariables false
set_option linter.unusedSimpArgs false
theorem at45_0 (x y : ByteArray) (w : World) : (Instr.index 155 (.agg #[.string x, .string y]) (.int .i64 0)).run Tryz.prog w = .ok (.string x) w := by kernel_rfl
theorem at45_1 (x y : ByteArray) (w : World) : (Instr.index 155 (.agg #[.string x, .string y]) (.int .i64 1)).run Tryz.prog w = .ok (.string y) w := by kernel_rfl
attribute [local go_sem] at45_0 at45_1
end Go.Proofs.YtihbebbabjklkaaGreatDoor
namespace Go.Proofs.YtihbebbabjklkaaGreatDoor.PA
open Go.RowKit Go.Proofs.WWords Go.Proofs.WLast Go.Proofs.WMore
attribute [local go_sem] at45_0 at45_1
instance : Ctr 109 (type_of% @bICheck.calls) := ⟨@bICheck.calls, _, Tryz.func109, by kernel_rfl, rfl⟩
instance : Ctr 132 (type_of% @bIread.calls) := ⟨@bIread.calls, _, Tryz.func132, by kernel_rfl, rfl⟩
theorem bIpair.calls (k : Nat) (a0 : ByteArray) (a1 : ByteArray) (r1 : Bool) (r2 : List Int) (r3 : Bool) (r4 : List Int) (r5 : Int) (w : World) (h : bIpair.f k a0 a1 = some (r1, r2, r3, r4, r5)) :
  Calls Tryz.prog 96 #[.string a0, .string a1] w fun e w' => ∃ X c Y d, e = .returned (.tuple #[.agg #[.bool r1, .slice X r2.length c], .agg #[.bool r3, .slice Y r4.length d], .int .i64 r5]) ∧ Kd.C (Kd.int .i64) w' X r2.length r2 ∧ r2.length ≤ c ∧ Kd.C (Kd.int .i64) w' Y r4.length r4 ∧ r4.length ≤ d ∧ Below w.heap.size w w' := by
 have hu := Tryz.underlying122
 have HB := Z0.mk (Below.refl w.heap.size w)
 unfold bIpair.f at h
 obtain ⟨e0, A0, h⟩ := bnd h
 go_enter Tryz.func96, Tryz.ntmps96
 go_wp2_with (first
  | ((with_reducible refine gd_ 4 rfl ?_); refine bxE 4 #[.bool false, .slice none 0 0] 122 ?_; intro g hg w1 hbox hb; have B0 := Z0.mk hbox; have G0 := fE HB hg; replace HB := fB HB hb; clear hb hbox hg)
  | ((with_reducible refine gd_ 5 rfl ?_); refine bxE 5 #[.bool false, .slice none 0 0] 122 ?_; intro g' hg w2 hbox hb; have B1 := Z0.mk hbox; have G1 := fE HB hg; have NB := fl B0 hg; replace B0 := fk B0 hb; replace HB := fB HB hb; clear hb hbox hg))
 have nb := NB.out
 have nb' := nb.symm
 go_loopw [13] (fun v wr => ∃ j : Nat, j ≤ 2 ∧ v = .int .i64 j ∧ (1 ≤ j → e0 = 0) ∧ (2 ≤ j → r5 = 0 ∧ Z0 (bIread.f k a0 = some (r1, r2)) ∧ Z0 (bIread.f k a1 = some (r3, r4))) ∧ Z0 (wr.heap[g]? = some (.cells #[.bool false, .slice none 0 0] 122)) ∧ Z0 (wr.heap[g']? = some (.cells #[.bool false, .slice none 0 0] 122)) ∧ Z0 (Below w.heap.size w wr))
  (fun i _ => 3 - (Go.RowKit.intOf i).toNat)
 case atStart => exact ⟨0, by omega, rfl, fun h => absurd h (by omega), fun h => absurd h (by omega), B0, B1, HB⟩
 clear B0 B1 HB
 obtain ⟨j, hj, rfl, k1, k2, B0, B1, HB⟩ := hrel
 obtain ⟨z0, z1, s0, s1⟩ := b2 B0
 obtain ⟨z2, z3, s2, s3⟩ := b2 B1
 rcases (show j = 0 ∨ j = 1 ∨ j = 2 by omega) with rfl | rfl | rfl
 · by_cases c : e0 = 0
   · have c1 : (e0 != 0) = false := bne_eq_false_iff_eq.2 c
     go_wp2_with (refine cG rfl ?_; intro w3 hb; replace B0 := fk B0 hb; replace B1 := fk B1 hb; replace HB := fB HB hb; clear hb z0 z1 z2 z3 s0 s1 s2 s3; obtain ⟨z0, z1, s0, s1⟩ := b2 B0; obtain ⟨z2, z3, s2, s3⟩ := b2 B1)
     exact ⟨⟨1, by omega, by simp, fun _ => c, fun h => absurd h (by omega), B0, B1, HB⟩, by simp [Go.RowKit.intOf]⟩
   · have c1 : (e0 != 0) = true := bne_iff_ne.2 c
     rw [if_neg c] at h
     cases h
     go_wp2_with (refine cG rfl ?_; intro w3 hb; replace B0 := fk B0 hb; replace B1 := fk B1 hb; replace HB := fB HB hb; clear hb z0 z1 z2 z3 s0 s1 s2 s3; obtain ⟨z0, z1, s0, s1⟩ := b2 B0; obtain ⟨z2, z3, s2, s3⟩ := b2 B1)
     refine bodyPost_ret (results_list (rs := [.cell 4 122, .cell 5 122, .tmp 6]) rfl (by simp) (.cell g 122 _ (0, 0) _ rfl (put22 nb B0.out B1.out).1 hu rfl (by kernel_rfl) (.cell g' 122 _ (0, 0) _ rfl (put22 nb B0.out B1.out).2 hu rfl (by kernel_rfl) (.tmp .nil)))) rfl ?_
     exact ⟨_, _, _, _, rfl, Kd.C_nil _ _, Nat.le_refl _, Kd.C_nil _ _, Nat.le_refl _, below_set (below_set (below_set (below_set HB.out G0.out) G0.out) G1.out) G1.out⟩
 · rw [if_pos (k1 (by omega))] at h
   obtain ⟨e1, A1, h⟩ := bnd h
   by_cases c : e1 = 0
   · have c1 : (e1 != 0) = false := bne_eq_false_iff_eq.2 c
     rw [if_pos c] at h
     obtain ⟨⟨x1, x2⟩, A2, h⟩ := bnd h
     obtain ⟨⟨x3, x4⟩, A3, h⟩ := bnd h
     cases h
     go_wp2_with (refine cG rfl ?_; intro w3 hb; replace B0 := fk B0 hb; replace B1 := fk B1 hb; replace HB := fB HB hb; clear hb z0 z1 z2 z3 s0 s1 s2 s3; obtain ⟨z0, z1, s0, s1⟩ := b2 B0; obtain ⟨z2, z3, s2, s3⟩ := b2 B1)
     exact ⟨⟨2, by omega, by simp, fun _ => k1 (by omega), fun _ => ⟨trivial, A2, A3⟩, B0, B1, HB⟩, by simp [Go.RowKit.intOf]⟩
   · have c1 : (e1 != 0) = true := bne_iff_ne.2 c
     rw [if_neg c] at h
     cases h
     go_wp2_with (refine cG rfl ?_; intro w3 hb; replace B0 := fk B0 hb; replace B1 := fk B1 hb; replace HB := fB HB hb; clear hb z0 z1 z2 z3 s0 s1 s2 s3; obtain ⟨z0, z1, s0, s1⟩ := b2 B0; obtain ⟨z2, z3, s2, s3⟩ := b2 B1)
     refine bodyPost_ret (results_list (rs := [.cell 4 122, .cell 5 122, .tmp 6]) rfl (by simp) (.cell g 122 _ (0, 0) _ rfl (put22 nb B0.out B1.out).1 hu rfl (by kernel_rfl) (.cell g' 122 _ (0, 0) _ rfl (put22 nb B0.out B1.out).2 hu rfl (by kernel_rfl) (.tmp .nil)))) rfl ?_
     exact ⟨_, _, _, _, rfl, Kd.C_nil _ _, Nat.le_refl _, Kd.C_nil _ _, Nat.le_refl _, below_set (below_set (below_set (below_set HB.out G0.out) G0.out) G1.out) G1.out⟩
 · obtain ⟨rfl, A2, A3⟩ := k2 (by omega)
   go_wp2_with (first
    | ((with_reducible refine gd_ 25 rfl ?_); refine cX rfl ?_; rintro _ w3 ⟨X, c, rfl, C, hc, hb⟩; refine ⟨_, rfl, ?_⟩; replace B0 := fk B0 hb; replace B1 := fk B1 hb; replace HB := fB HB hb; clear hb)
    | ((with_reducible refine gd_ 27 rfl ?_); refine cX rfl ?_; rintro _ w4 ⟨Y, d, rfl, D, hd, hb⟩; refine ⟨_, rfl, ?_⟩; replace C := Kd.C_below C hb; replace B0 := fk B0 hb; replace B1 := fk B1 hb; replace HB := fB HB hb; clear hb z0 z1 z2 z3 s0 s1 s2 s3; obtain ⟨z0, z1, s0, s1⟩ := b2 B0; obtain ⟨z2, z3, s2, s3⟩ := b2 B1))
   refine bodyPost_ret (results_list (rs := [.cell 4 122, .cell 5 122, .tmp 6]) rfl (by simp) (.cell g 122 _ (0, 0) _ rfl (put22 nb B0.out B1.out).1 hu rfl (by kernel_rfl) (.cell g' 122 _ (0, 0) _ rfl (put22 nb B0.out B1.out).2 hu rfl (by kernel_rfl) (.tmp .nil)))) rfl ?_
   exact ⟨_, _, _, _, rfl, C_set4 C nb B0.out B1.out, hc, C_set4 D nb B0.out B1.out, hd, below_set (below_set (below_set (below_set HB.out G0.out) G0.out) G1.out) G1.out⟩
end Go.Proofs.YtihbebbabjklkaaGreatDoor.PA
namespace Go.Proofs.YtihbebbabjklkaaGreatDoor
set_option linter.unusedVariables false
open Go.RowKit Go.Proofs.WWords Go.Proofs.WLast Go.Proofs.WMore PA
set_option linter.unusedSimpArgs false
theorem run_store_func {P : Program} {w : World} {a : Addr} {m : Mode} (f : Fn) (x y : Array Value) : (store a (.func f x y) m).run P w = stored P w a (.func f x y) m := run_store P w a _ m rfl
attribute [local go_sem] run_store_func
def opsV : Value := .agg #[.func (.func 139) #[] #[], .func (.func 188) #[] #[], .func (.func 189) #[] #[], .func (.func 190) #[] #[]]
theorem ops_calls (w : World) : Calls Tryz.prog 141 #[] w fun e w' => e = .returned opsV ∧ Below w.heap.size w w' := by
 have hu123 := Tryz.underlying175
 have hu122 := Tryz.underlying174
 go_enter Tryz.func141, Tryz.ntmps141
 go_wp2_with ((with_reducible refine gd_ 0 rfl ?_); refine bxE 0 #[.nilFunc, .nilFunc, .nilFunc, .nilFunc] 175 ?_; intro g hg w1 hbox hb
              have c0 := blk_cell hbox 0; have c1 := blk_cell hbox 1; have c2 := blk_cell hbox 2; have c3 := blk_cell hbox 3
              have f0 := blk_frozen hbox 0; have f1 := blk_frozen hbox 1; have f2 := blk_frozen hbox 2; have f3 := blk_frozen hbox 3
              replace c0 := c0.trans (show _ = some Value.nilFunc from rfl); replace c1 := c1.trans (show _ = some Value.nilFunc from rfl); replace c2 := c2.trans (show _ = some Value.nilFunc from rfl); replace c3 := c3.trans (show _ = some Value.nilFunc from rfl)
              have hge : w.heap.size ≤ g := by omega
              clear hg)
 refine bodyPost_ret (results_cell_row rfl _ _ g 175 #[.func (.func 139) #[] #[], .func (.func 188) #[] #[], .func (.func 189) #[] #[], .func (.func 190) #[] #[]] (0, 0) _ rfl ?_ Tryz.underlying175 rfl (by kernel_rfl)) rfl ?_
 ·exact blk_put (cs := #[.func (.func 139) #[] #[], .func (.func 188) #[] #[], .func (.func 189) #[] #[], .nilFunc]) (blk_put (cs := #[.func (.func 139) #[] #[], .func (.func 188) #[] #[], .nilFunc, .nilFunc]) (blk_put (cs := #[.func (.func 139) #[] #[], .nilFunc, .nilFunc, .nilFunc]) (blk_put hbox 0 _ rfl) 1 _ rfl) 2 _ rfl) 3 _ rfl
 exact ⟨rfl, below_set (below_set (below_set (below_set hb hge) hge) hge) hge⟩
theorem op1_calls (a0 a1 : Bool) (v0 v1 : Value) (w : World) : Calls Tryz.prog 188 #[.agg #[.bool a0, v0], .agg #[.bool a1, v1]] w fun e w' => e = .returned (.bool a0) ∧ Below w.heap.size w w' := by
 have hu88 := Tryz.underlying122
 go_enter Tryz.func188, Tryz.ntmps188
 go_wp2
 go_ret
 exact ⟨rfl, ((Below.refl _ w).alloc (Nat.le_refl _) _).alloc (by simp) _⟩
theorem op2_calls (k : Nat) (A0 : Option Addr) (c0 : Nat) (l0 : List Int) (A1 : Option Addr) (c1 : Nat) (l1 : List Int) (t : Int) (r : List Int) (w : World) (hr0 : Kd.C (Kd.int .i64) w A0 l0.length l0) (hc0 : l0.length ≤ c0) (hr1 : Kd.C (Kd.int .i64) w A1 l1.length l1) (hc1 : l1.length ≤ c1)
    (ho : bIorder.f l0 l1 = some t) (h : (if t < 0 then bIminus.f k l1 l0 else bIminus.f k l0 l1) = some r) :
    Calls Tryz.prog 189 #[.slice A0 l0.length c0, .slice A1 l1.length c1] w fun e w' => ∃ v0_ : Value, e = .returned (v0_) ∧ Kd.R (Kd.int .i64) 3 w' w.heap.size (fun _ => True) v0_ r ∧ Below w.heap.size w w' := by
 by_cases c : t < 0
 ·rw [if_pos c] at h
  have c0b : decide (t < 0) = true := decide_eq_true c
  clear c
  go_enter Tryz.func189, Tryz.ntmps189
  go_wp2_with (first
    | ((with_reducible refine gc_ 142 rfl ?_); refine goB (w0 := w) (some 7) Tryz.func142 #[.slice A0 l0.length c0, .slice A1 l1.length c1] (Below.refl _ _) (bIorder.calls _ _ l0 _ _ l1 t _ hr0 hc0 hr1 hc1 ho) ?_; intro w1 HB)
    | ((with_reducible refine gc_ 140 rfl ?_); refine goesL_ (some 13) rfl rfl Tryz.func140 (by kernel_rfl) rfl #[.slice A1 l1.length c1, .slice A0 l0.length c0] rfl (by (try simp only [List.map_toArray, List.map_cons, List.map_nil]); first | done | rfl) ?_
       refine (bIminus.calls k A1 c1 l1 A0 c0 l0 r _ (Kd.C_below hr1 HB.out) hc1 (Kd.C_below hr0 HB.out) hc0 h).mono ?_
       rintro e w2 ⟨v0, rfl, hR, hb⟩; refine ⟨_, rfl, ?_⟩))
  go_ret
  exact ⟨_, rfl, Kd.R_lower hR HB.out.size, below_step HB.out hb⟩
 rw [if_neg c] at h
 have c0b : decide (t < 0) = false := decide_eq_false c
 clear c
 go_enter Tryz.func189, Tryz.ntmps189
 go_wp2_with (first
   | ((with_reducible refine gc_ 142 rfl ?_); refine goB (w0 := w) (some 7) Tryz.func142 #[.slice A0 l0.length c0, .slice A1 l1.length c1] (Below.refl _ _) (bIorder.calls _ _ l0 _ _ l1 t _ hr0 hc0 hr1 hc1 ho) ?_; intro w1 HB)
   | ((with_reducible refine gc_ 140 rfl ?_); refine goesL_ (some 13) rfl rfl Tryz.func140 (by kernel_rfl) rfl #[.slice A0 l0.length c0, .slice A1 l1.length c1] rfl (by (try simp only [List.map_toArray, List.map_cons, List.map_nil]); first | done | rfl) ?_
      refine (bIminus.calls k A0 c0 l0 A1 c1 l1 r _ (Kd.C_below hr0 HB.out) hc0 (Kd.C_below hr1 HB.out) hc1 h).mono ?_
      rintro e w2 ⟨v0, rfl, hR, hb⟩; refine ⟨_, rfl, ?_⟩))
 go_ret
 exact ⟨_, rfl, Kd.R_lower hR HB.out.size, below_step HB.out hb⟩
theorem op3_calls (a0 a1 : Bool) (A0 : Option Addr) (c0 : Nat) (l0 : List Int) (A1 : Option Addr) (c1 : Nat) (l1 : List Int) (t : Int) (w : World) (hr0 : Kd.C (Kd.int .i64) w A0 l0.length l0) (hc0 : l0.length ≤ c0) (hr1 : Kd.C (Kd.int .i64) w A1 l1.length l1) (hc1 : l1.length ≤ c1)
    (ho : bIorder.f l0 l1 = some t) :
    Calls Tryz.prog 190 #[.agg #[.bool a0, .slice A0 l0.length c0], .agg #[.bool a1, .slice A1 l1.length c1]] w fun e w' => e = .returned (.bool (decide (t < 0) != a0)) ∧ Below w.heap.size w w' := by
 have hu88 := Tryz.underlying122
 go_enter Tryz.func190, Tryz.ntmps190
 go_wp2
 obtain ⟨s, hs⟩ : ∃ s, w.heap.size = s := ⟨_, rfl⟩
 simp only [hs]
 obtain ⟨W, hW⟩ : ∃ W, (w.alloc (.cells #[.bool a0, .slice A0 l0.length c0] 122)).alloc (.cells #[.bool a1, .slice A1 l1.length c1] 122) = W := ⟨_, rfl⟩
 rw [hW]
 have hB : Below s w W := by rw [← hW]; exact ((Below.refl _ w).alloc (by omega) _).alloc (by simp; omega) _
 have h0 : W.heap[s]? = some (.cells #[.bool a0, .slice A0 l0.length c0] 122 (0, 0)) := by rw [← hW, ← hs]; exact (Below.heap_alloc _ _ _ (by simp)).trans (World.alloc_heap_new w _)
 have h1 : W.heap[s + 1]? = some (.cells #[.bool a1, .slice A1 l1.length c1] 122 (0, 0)) := by
  rw [← hW, ← hs]; have := World.alloc_heap_new (w.alloc (.cells #[.bool a0, .slice A0 l0.length c0] 122)) (.cells #[.bool a1, .slice A1 l1.length c1] 122); simpa using this
 have hlt : s + 1 < W.heap.size := (Array.getElem?_eq_some_iff.1 h1).1
 clear hW
 have k0 : Kd.C (Kd.int .i64) W.drew A0 l0.length l0 := Kd.C_below hr0 (by rw [hs]; exact hB.drew)
 have k1 : Kd.C (Kd.int .i64) W.drew A1 l1.length l1 := Kd.C_below hr1 (by rw [hs]; exact hB.drew)
 have f00 := blk_cell h0 0
 have f01 := blk_cell h0 1
 have f11 := blk_cell h1 1
 go_region_held3 (fun w' => w'.cell? ⟨s, 0, none⟩ = some (.bool a0) ∧ w'.cell? ⟨s, 1, none⟩ = some (.slice A0 l0.length c0) ∧ w'.cell? ⟨s + 1, 1, none⟩ = some (.slice A1 l1.length c1)) (first | exact ⟨f00, f01, f11⟩ | exact ⟨(blk_cell g0 0), (blk_cell g0 1), (blk_cell g1 1)⟩) (first | (go_at_call 142; refine (bIorder.calls _ _ l0 _ _ l1 t _ k0 hc0 k1 hc1 ho).mono ?_; rintro e w' ⟨rfl, hb⟩; have g0 : w'.heap[s]? = some (.cells #[.bool a0, .slice A0 l0.length c0] 122 (0, 0)) := (hb.block s (show s < W.heap.size by omega)).trans h0; have g1 : w'.heap[s + 1]? = some (.cells #[.bool a1, .slice A1 l1.length c1] 122 (0, 0)) := (hb.block (s + 1) hlt).trans h1))
 all_goals go_wp2
 all_goals go_ret
 refine ⟨by simp [bne], by rw [hs]; exact (hB.drew).trans (hb.mono (by have := hB.size; rw [hs] at this; exact this))⟩
set_option linter.unusedVariables false
set_option linter.unusedSimpArgs false
attribute [local go_sem] run_store_func
theorem at123_0 (w : World) : (Instr.index 175 opsV (.int .i64 0)).run Tryz.prog w = .ok (.agg #[.func (.func 139) #[] #[], .func (.func 188) #[] #[]]) w := by kernel_rfl
theorem at123_1 (w : World) : (Instr.index 175 opsV (.int .i64 1)).run Tryz.prog w = .ok (.agg #[.func (.func 189) #[] #[], .func (.func 190) #[] #[]]) w := by kernel_rfl
attribute [local go_sem] at123_0 at123_1
structure SumI (s : Nat) (a0 : Bool) (A0 : Option Addr) (c0 : Nat) (l0 : List Int) (a1 : Bool) (A1 : Option Addr) (c1 : Nat) (l1 : List Int) (f g : Nat) (gf : Nat) (w W : World) : Prop where
 x : W.heap[s]? = some (.cells #[.bool a0, .slice A0 l0.length c0] 122 (0, 0))
 y : W.heap[s + 1]? = some (.cells #[.bool a1, .slice A1 l1.length c1] 122 (0, 0))
 r : W.heap[s + 2]? = some (.cells #[.bool false, .slice none 0 0] 122 (0, 0))
 o : W.heap[gf]? = some (.cells #[.func (.func f) #[] #[], .func (.func g) #[] #[]] 174 (0, 0))
 b : Below w.heap.size w W
 kx : Kd.C (Kd.int .i64) W A0 l0.length l0
 ky : Kd.C (Kd.int .i64) W A1 l1.length l1
 ne : s + 3 ≤ gf
theorem SumI.on {s : Nat} {a0 : Bool} {A0 : Option Addr} {c0 : Nat} {l0 : List Int} {a1 : Bool} {A1 : Option Addr} {c1 : Nat} {l1 : List Int} {f g gf : Nat} {w W W' : World} (h : SumI s a0 A0 c0 l0 a1 A1 c1 l1 f g gf w W) (hb : Below W.heap.size W W') : SumI s a0 A0 c0 l0 a1 A1 c1 l1 f g gf w W' :=
 have k : ∀ {j : Nat} {o : Obj}, W.heap[j]? = some o → W'.heap[j]? = some o := fun hj => (hb.block _ (Array.getElem?_eq_some_iff.1 hj).1).trans hj
 ⟨k h.x, k h.y, k h.r, k h.o, h.b.trans (hb.mono h.b.size), Kd.C_below h.kx hb, Kd.C_below h.ky hb, h.ne⟩
def SumS (s : Nat) (a0 : Bool) (A0 : Option Addr) (c0 : Nat) (l0 : List Int) (a1 : Bool) (A1 : Option Addr) (c1 : Nat) (l1 : List Int) (f g : Nat) (gf : Nat) (w' : World) : Prop :=
 w'.cell? ⟨s, 0, none⟩ = some (.bool a0) ∧ w'.cell? ⟨s, 1, none⟩ = some (.slice A0 l0.length c0) ∧ w'.cell? ⟨s + 1, 0, none⟩ = some (.bool a1) ∧ w'.cell? ⟨s + 1, 1, none⟩ = some (.slice A1 l1.length c1) ∧ w'.cell? ⟨gf, 0, none⟩ = some (.func (.func f) #[] #[]) ∧ w'.cell? ⟨gf, 1, none⟩ = some (.func (.func g) #[] #[])
theorem SumI.cells {s : Nat} {a0 : Bool} {A0 : Option Addr} {c0 : Nat} {l0 : List Int} {a1 : Bool} {A1 : Option Addr} {c1 : Nat} {l1 : List Int} {f g gf : Nat} {w W : World} (h : SumI s a0 A0 c0 l0 a1 A1 c1 l1 f g gf w W) : SumS s a0 A0 c0 l0 a1 A1 c1 l1 f g gf W :=
 ⟨blk_cell h.x 0, blk_cell h.x 1, blk_cell h.y 0, blk_cell h.y 1, blk_cell h.o 0, blk_cell h.o 1⟩
theorem SumI.put {s : Nat} {a0 : Bool} {A0 : Option Addr} {c0 : Nat} {l0 : List Int} {a1 : Bool} {A1 : Option Addr} {c1 : Nat} {l1 : List Int} {f g gf : Nat} {w W : World} (h : SumI s a0 A0 c0 l0 a1 A1 c1 l1 f g gf w W) (u v : Value) : SumS s a0 A0 c0 l0 a1 A1 c1 l1 f g gf ((W.setCell ⟨s + 1 + 1, 0, none⟩ u).setCell ⟨s + 1 + 1, 1, none⟩ v) := by
 have k : ∀ {j : Nat} {o : Obj}, j ≠ s + 1 + 1 → W.heap[j]? = some o → ((W.setCell ⟨s + 1 + 1, 0, none⟩ u).setCell ⟨s + 1 + 1, 1, none⟩ v).heap[j]? = some o := fun hn hj => (Below.heap_setCell _ _ _ _ hn).trans ((Below.heap_setCell _ _ _ _ hn).trans hj)
 have hne := h.ne
 have hx := k (by omega) h.x
 have hy := k (by omega) h.y
 have ho := k (by omega) h.o
 exact ⟨blk_cell hx 0, blk_cell hx 1, blk_cell hy 0, blk_cell hy 1, blk_cell ho 0, blk_cell ho 1⟩
theorem SumI.end_ {s : Nat} {a0 : Bool} {A0 : Option Addr} {c0 : Nat} {l0 : List Int} {a1 : Bool} {A1 : Option Addr} {c1 : Nat} {l1 : List Int} {f g gf : Nat} {w W : World} (h : SumI s a0 A0 c0 l0 a1 A1 c1 l1 f g gf w W) (u v : Value) : ((W.setCell ⟨s + 1 + 1, 0, none⟩ u).setCell ⟨s + 1 + 1, 1, none⟩ v).heap[s + 1 + 1]? = some (.cells #[u, v] 122 (0, 0)) :=
 blk_put (cs := #[u, .slice none 0 0]) (blk_put (cs := #[.bool false, .slice none 0 0]) h.r 0 _ rfl) 1 _ rfl
theorem SumI.new (w w1 : World) (a0 : Bool) (A0 : Option Addr) (c0 : Nat) (l0 : List Int) (a1 : Bool) (A1 : Option Addr) (c1 : Nat) (l1 : List Int) (f g : Nat) (hr0 : Kd.C (Kd.int .i64) w A0 l0.length l0) (hr1 : Kd.C (Kd.int .i64) w A1 l1.length l1)
  (hb : Below (((w.alloc (.cells #[.bool a0, .slice A0 l0.length c0] 122)).alloc (.cells #[.bool a1, .slice A1 l1.length c1] 122)).alloc (.cells #[.bool false, .slice none 0 0] 122)).heap.size (((w.alloc (.cells #[.bool a0, .slice A0 l0.length c0] 122)).alloc (.cells #[.bool a1, .slice A1 l1.length c1] 122)).alloc (.cells #[.bool false, .slice none 0 0] 122)) w1) :
  SumI w.heap.size a0 A0 c0 l0 a1 A1 c1 l1 f g w1.heap.size w (w1.alloc (.cells #[.func (.func f) #[] #[], .func (.func g) #[] #[]] 174)) := by
 obtain ⟨W0, hW0⟩ : ∃ W0, ((w.alloc (.cells #[.bool a0, .slice A0 l0.length c0] 122)).alloc (.cells #[.bool a1, .slice A1 l1.length c1] 122)).alloc (.cells #[.bool false, .slice none 0 0] 122) = W0 := ⟨_, rfl⟩
 rw [hW0] at hb
 have hB0 : Below w.heap.size w W0 := by rw [← hW0]; exact (((Below.refl _ w).alloc (Nat.le_refl _) _).alloc (by simp) _).alloc (by simp; omega) _
 have hs0 : W0.heap.size = w.heap.size + 3 := by rw [← hW0]; simp
 have h0 : W0.heap[w.heap.size]? = some (.cells #[.bool a0, .slice A0 l0.length c0] 122 (0, 0)) := by
  rw [← hW0]; exact (Below.heap_alloc _ _ _ (by simp; omega)).trans ((Below.heap_alloc _ _ _ (by simp)).trans (World.alloc_heap_new w _))
 have h1 : W0.heap[w.heap.size + 1]? = some (.cells #[.bool a1, .slice A1 l1.length c1] 122 (0, 0)) := by
  rw [← hW0]; refine (Below.heap_alloc _ _ _ (by simp)).trans ?_
  have := World.alloc_heap_new (w.alloc (.cells #[.bool a0, .slice A0 l0.length c0] 122)) (.cells #[.bool a1, .slice A1 l1.length c1] 122); simpa using this
 have h2 : W0.heap[w.heap.size + 2]? = some (.cells #[.bool false, .slice none 0 0] 122 (0, 0)) := by
  rw [← hW0]
  have := World.alloc_heap_new ((w.alloc (.cells #[.bool a0, .slice A0 l0.length c0] 122)).alloc (.cells #[.bool a1, .slice A1 l1.length c1] 122)) (.cells #[.bool false, .slice none 0 0] 122); simpa using this
 have hB1 : Below w.heap.size w w1 := hB0.trans (hb.mono hB0.size)
 have k : ∀ {j : Nat} {o : Obj}, W0.heap[j]? = some o → (w1.alloc (.cells #[.func (.func f) #[] #[], .func (.func g) #[] #[]] 174)).heap[j]? = some o := fun {j o} hj =>
  (Below.heap_alloc _ _ _ (Nat.lt_of_lt_of_le (Array.getElem?_eq_some_iff.1 hj).1 hb.size)).trans ((hb.block _ (Array.getElem?_eq_some_iff.1 hj).1).trans hj)
 have hB2 := hB1.alloc (Nat.le_trans hB0.size hb.size) (.cells #[.func (.func f) #[] #[], .func (.func g) #[] #[]] 174)
 exact ⟨k h0, k h1, k h2, World.alloc_heap_new w1 _, hB2, Kd.C_below hr0 hB2, Kd.C_below hr1 hB2, by have := hb.size; omega⟩
theorem sum_eq (k : Nat) (a0 : Bool) (A0 : Option Addr) (c0 : Nat) (l0 : List Int) (A1 : Option Addr) (c1 : Nat) (l1 : List Int) (r : List Int) (w : World) (hr0 : Kd.C (Kd.int .i64) w A0 l0.length l0) (hc0 : l0.length ≤ c0) (hr1 : Kd.C (Kd.int .i64) w A1 l1.length l1) (hc1 : l1.length ≤ c1)
  (h : bIplus.f k l0 l1 = some r) :
  Calls Tryz.prog 101 #[.agg #[.bool a0, .slice A0 l0.length c0], .agg #[.bool a0, .slice A1 l1.length c1]] w fun e w' => ∃ v1_ : Value, e = .returned (.agg #[.bool a0, v1_]) ∧ Kd.R (Kd.int .i64) 3 w' w.heap.size (fun _ => True) v1_ r ∧ Below w.heap.size w w' := by
 have hu88 := Tryz.underlying122
 have hu122 := Tryz.underlying174
 go_enter Tryz.func101, Tryz.ntmps101
 go_wp2_with ((with_reducible refine gc_ 141 rfl ?_); refine goesL_ (some 12) rfl rfl Tryz.func141 (by kernel_rfl) rfl #[] rfl (by (try simp only [List.map_toArray, List.map_cons, List.map_nil]); first | done | rfl) ?_; refine (ops_calls _).mono ?_; rintro e w1 ⟨rfl, hb1⟩; refine ⟨_, rfl, ?_⟩)
 have hI := SumI.new w w1 a0 A0 c0 l0 a0 A1 c1 l1 139 188 hr0 hr1 hb1
 obtain ⟨W, hW⟩ : ∃ W, w1.alloc (.cells #[.func (.func 139) #[] #[], .func (.func 188) #[] #[]] 174) = W := ⟨_, rfl⟩
 rw [hW] at hI
 rw [hW]
 obtain ⟨gf, hgf⟩ : ∃ gf, w1.heap.size = gf := ⟨_, rfl⟩
 rw [hgf] at hI
 simp only [hgf]
 obtain ⟨s, hs⟩ : ∃ s, w.heap.size = s := ⟨_, rfl⟩
 rw [hs] at hI
 simp only [hs]
 clear hW hgf hb1
 have hId : SumI s a0 A0 c0 l0 a0 A1 c1 l1 139 188 gf w W.drew := hI.on ((Below.refl _ W).drew)
 go_region_held3 (fun w' => w'.cell? ⟨s, 0, none⟩ = some (.bool a0) ∧ w'.cell? ⟨s, 1, none⟩ = some (.slice A0 l0.length c0) ∧ w'.cell? ⟨s + 1, 0, none⟩ = some (.bool a0) ∧ w'.cell? ⟨s + 1, 1, none⟩ = some (.slice A1 l1.length c1) ∧ w'.cell? ⟨gf, 0, none⟩ = some (.func (.func 139) #[] #[]) ∧ w'.cell? ⟨gf, 1, none⟩ = some (.func (.func 188) #[] #[]))
  (first | exact hId.cells | exact hI2.cells | exact hI3.cells | exact hI3.put _ _)
  (first
   | (go_at_call 188; refine (op1_calls a0 a0 _ _ _).mono ?_; rintro e w2 ⟨rfl, hb⟩; have hI2 := hId.on hb)
   | (go_at_call 139; refine (bIplus.calls k A0 c0 l0 A1 c1 l1 r w2 hI2.kx hc0 hI2.ky hc1 h).mono ?_; rintro e w3 ⟨v0, rfl, hR, hb3⟩; have hI3 := hI2.on hb3; obtain ⟨Ar, cr, er⟩ := Kd.R_slice hR; subst er; have r0 := blk_cell hI3.r 0; have r1 := blk_cell hI3.r 1; have rf0 := blk_frozen hI3.r 0; have rf1 := blk_frozen hI3.r 1))
 all_goals go_wp2
 refine bodyPost_ret (results_cell_row rfl _ _ (s + 1 + 1) 122 #[.bool a0, .slice Ar r.length cr] (0, 0) _ rfl (hI3.end_ _ _) Tryz.underlying122 rfl (by kernel_rfl)) rfl ⟨_, rfl, ?_, ?_⟩
 ·refine Kd.R_mono (Kd.R_far (p := ⟨s + 1 + 1, 1, none⟩) (Kd.R_far (p := ⟨s + 1 + 1, 0, none⟩) (Kd.R_types (Kd.R_lower hR hI2.b.size) hI3.r (by decide)) (fun _ hk => hk.2) _) (fun _ hk => hk.2) _) (fun _ _ => trivial)
 exact below_set (below_set hI3.b (by omega)) (by omega)
theorem sum_ne (k : Nat) (a0 a1 : Bool) (t : Int) (A0 : Option Addr) (c0 : Nat) (l0 : List Int) (A1 : Option Addr) (c1 : Nat) (l1 : List Int) (r : List Int) (w : World) (hr0 : Kd.C (Kd.int .i64) w A0 l0.length l0) (hc0 : l0.length ≤ c0) (hr1 : Kd.C (Kd.int .i64) w A1 l1.length l1) (hc1 : l1.length ≤ c1)
  (hne : (a0 != a1) = true) (ho : bIorder.f l0 l1 = some t) (h : (if t < 0 then bIminus.f k l1 l0 else bIminus.f k l0 l1) = some r) :
  Calls Tryz.prog 101 #[.agg #[.bool a0, .slice A0 l0.length c0], .agg #[.bool a1, .slice A1 l1.length c1]] w fun e w' => ∃ v1_ : Value, e = .returned (.agg #[.bool (decide (t < 0) != a0), v1_]) ∧ Kd.R (Kd.int .i64) 3 w' w.heap.size (fun _ => True) v1_ r ∧ Below w.heap.size w w' := by
 have hne1 : (a0 == a1) = false := by simpa [bne] using hne
 have hne2 : ¬ a0 = a1 := by simpa using hne1
 have hu88 := Tryz.underlying122
 have hu122 := Tryz.underlying174
 go_enter Tryz.func101, Tryz.ntmps101
 go_wp2_with ((with_reducible refine gc_ 141 rfl ?_); refine goesL_ (some 12) rfl rfl Tryz.func141 (by kernel_rfl) rfl #[] rfl (by (try simp only [List.map_toArray, List.map_cons, List.map_nil]); first | done | rfl) ?_; refine (ops_calls _).mono ?_; rintro e w1 ⟨rfl, hb1⟩; refine ⟨_, rfl, ?_⟩)
 have hI := SumI.new w w1 a0 A0 c0 l0 a1 A1 c1 l1 189 190 hr0 hr1 hb1
 obtain ⟨W, hW⟩ : ∃ W, w1.alloc (.cells #[.func (.func 189) #[] #[], .func (.func 190) #[] #[]] 174) = W := ⟨_, rfl⟩
 rw [hW] at hI
 rw [hW]
 obtain ⟨gf, hgf⟩ : ∃ gf, w1.heap.size = gf := ⟨_, rfl⟩
 rw [hgf] at hI
 simp only [hgf]
 obtain ⟨s, hs⟩ : ∃ s, w.heap.size = s := ⟨_, rfl⟩
 rw [hs] at hI
 simp only [hs]
 clear hW hgf hb1
 have hId : SumI s a0 A0 c0 l0 a1 A1 c1 l1 189 190 gf w W.drew := hI.on ((Below.refl _ W).drew)
 go_region_held3 (fun w' => w'.cell? ⟨s, 0, none⟩ = some (.bool a0) ∧ w'.cell? ⟨s, 1, none⟩ = some (.slice A0 l0.length c0) ∧ w'.cell? ⟨s + 1, 0, none⟩ = some (.bool a1) ∧ w'.cell? ⟨s + 1, 1, none⟩ = some (.slice A1 l1.length c1) ∧ w'.cell? ⟨gf, 0, none⟩ = some (.func (.func 189) #[] #[]) ∧ w'.cell? ⟨gf, 1, none⟩ = some (.func (.func 190) #[] #[]))
  (first | exact hId.cells | exact hI2.cells | exact hI3.cells | exact hI3.put _ _)
  (first
   | (go_at_call 190; refine (op3_calls a0 a1 A0 c0 l0 A1 c1 l1 t _ hId.kx hc0 hId.ky hc1 ho).mono ?_; rintro e w2 ⟨rfl, hb⟩; have hI2 := hId.on hb)
   | (go_at_call 189; refine (op2_calls k A0 c0 l0 A1 c1 l1 t r w2 hI2.kx hc0 hI2.ky hc1 ho h).mono ?_; rintro e w3 ⟨v0, rfl, hR, hb3⟩; have hI3 := hI2.on hb3; obtain ⟨Ar, cr, er⟩ := Kd.R_slice hR; subst er; have r0 := blk_cell hI3.r 0; have r1 := blk_cell hI3.r 1; have rf0 := blk_frozen hI3.r 0; have rf1 := blk_frozen hI3.r 1))
 all_goals go_wp2
 refine bodyPost_ret (results_cell_row rfl _ _ (s + 1 + 1) 122 #[.bool (decide (t < 0) != a0), .slice Ar r.length cr] (0, 0) _ rfl (by first | exact hI3.end_ _ _ | (have := hI3.end_ (.bool (decide (t < 0) != a0)) (.slice Ar r.length cr); simpa [bne] using this)) Tryz.underlying122 rfl (by kernel_rfl)) rfl ⟨_, rfl, ?_, ?_⟩
 ·refine Kd.R_mono (Kd.R_far (p := ⟨s + 1 + 1, 1, none⟩) (Kd.R_far (p := ⟨s + 1 + 1, 0, none⟩) (Kd.R_types (Kd.R_lower hR hI2.b.size) hI3.r (by decide)) (fun _ hk => hk.2) _) (fun _ hk => hk.2) _) (fun _ _ => trivial)
 exact below_set (below_set hI3.b (by omega)) (by omega)
theorem bIsum.calls (k : Nat) (a0_0 : Bool) (A0_1 : Option Addr) (c0_1 : Nat) (l0_1 : List Int) (a1_0 : Bool) (A1_1 : Option Addr) (c1_1 : Nat) (l1_1 : List Int) (r1 : Bool) (r2 : List Int) (w : World) (hr0_1 : Kd.C (Kd.int .i64) w A0_1 l0_1.length l0_1) (hc0_1 : l0_1.length ≤ c0_1) (hr1_1 : Kd.C (Kd.int .i64) w A1_1 l1_1.length l1_1) (hc1_1 : l1_1.length ≤ c1_1) (h : bIsum.f k a0_0 l0_1 a1_0 l1_1 = some (r1, r2)) :
  Calls Tryz.prog 101 #[.agg #[.bool a0_0, .slice A0_1 l0_1.length c0_1], .agg #[.bool a1_0, .slice A1_1 l1_1.length c1_1]] w fun e w' => ∃ v1_ : Value, e = .returned (.agg #[.bool r1, v1_]) ∧ Kd.R (Kd.int .i64) 3 w' w.heap.size (fun _ => True) v1_ r2 ∧ Below w.heap.size w w' := by
 unfold bIsum.f at h
 split at h
 ·rename_i he
  subst he
  obtain ⟨r, hr, h⟩ := Option.bind_eq_some_iff.mp h
  simp only [Option.some.injEq, Prod.mk.injEq] at h
  obtain ⟨rfl, rfl⟩ := h
  exact sum_eq k a0_0 A0_1 c0_1 l0_1 A1_1 c1_1 l1_1 r w hr0_1 hc0_1 hr1_1 hc1_1 hr
 rename_i he
 obtain ⟨t, ht, h⟩ := Option.bind_eq_some_iff.mp h
 obtain ⟨r, hr, h⟩ := Option.bind_eq_some_iff.mp h
 simp only [Option.some.injEq, Prod.mk.injEq] at h
 obtain ⟨rfl, rfl⟩ := h
 exact sum_ne k a0_0 a1_0 t A0_1 c0_1 l0_1 A1_1 c1_1 l1_1 r w hr0_1 hc0_1 hr1_1 hc1_1 (by simpa using he) ht hr
end Go.Proofs.YtihbebbabjklkaaGreatDoor
namespace Go.Proofs.YtihbebbabjklkaaGreatDoor.PA
set_option linter.unusedVariables false
open Go.RowKit Go.Proofs.WWords Go.Proofs.WLast Go.Proofs.WMore
attribute [local go_sem] max2_int min2_int max_two min_two max_three min_three max_four min_four
set_option linter.unusedSimpArgs false
theorem bInumber_size.calls (a0_0 : Bool) (A0_1 : Option Addr) (c0_1 : Nat) (l0_1 : List Int) (r : Int) (w : World) (hL : LaidW w) (hr0_1 : Kd.C (Kd.int .i64) w A0_1 l0_1.length l0_1) (hc0_1 : l0_1.length ≤ c0_1) (h : bInumber_size.f a0_0 l0_1 = some r) :
  Calls Tryz.prog 146 #[.agg #[.bool a0_0, .slice A0_1 l0_1.length c0_1]] w fun e w' => e = .returned (.int .i64 r) ∧ Below w.heap.size w w' := by
 have hu88 := Tryz.underlying122
 have HR0_1 := Z0.mk hr0_1
 have HC0_1 := Z0.mk hc0_1
 clear hr0_1 hc0_1
 have HB := Z0.mk (Below.refl w.heap.size w)
 have H := h
 clear h
 unfold bInumber_size.f at H
 rcases je H with ⟨-, c2b0, c2b1, H⟩ | ⟨c2, c2b0, c2b1, H⟩
 ·obtain rfl := Option.some.inj H
  go_enter Tryz.func146, Tryz.ntmps146
  go_wp2_with (first | ((with_reducible refine gd_ 1 rfl ?_); refine bxE 1 #[.bool a0_0, .slice A0_1 l0_1.length c0_1] 122 ?_; intro gb292 hg w3 hbox hb; have BK292 := Z0.mk hbox; have GW292 := fE HB hg; have GE292 := fE HB hg; replace HB := fB HB hb; clear hb hbox hg; obtain ⟨hcz4_0, hcz4_1, hfz4_0, hfz4_1⟩ := b2 BK292))
  go_ret
  exact finE
 have c2b2 : ¬ (l0_1 = []) := fun h_ => c2 (by rw [h_]; rfl)
 obtain ⟨ji5, hji5⟩ : ∃ j_ : Int, (wrap64 ((l0_1.length : Int) - 1)) = j_ := ⟨_, rfl⟩
 replace H : (if 0 ≤ (ji5) then (if (ji5) < (l0_1.length : Int) then ((strconv_Itoa.f (rd l0_1 (ji5))).bind fun t294 => (some (wrap64 ((wrap64 ((ji5) * 9)) + (t294.size : Int))))) else (none)) else (none)) = some r := by first | (rw [hji5] at H; exact H) | (simp only [hji5] at H ⊢; exact H)
 have hji5w : (IntKind.i64.wrap ((l0_1.length : Int) - 1)) = ji5 := (i64_w _).trans hji5
 obtain ⟨-, c6b0, H⟩ := gd H
 obtain ⟨-, c7b0, H⟩ := gd H
 obtain ⟨t294, A8, H⟩ := bnd H
 obtain rfl := Option.some.inj H
 go_enter Tryz.func146, Tryz.ntmps146
 go_wp2_with (first | ((with_reducible refine gd_ 1 rfl ?_); refine bxE 1 #[.bool a0_0, .slice A0_1 l0_1.length c0_1] 122 ?_; intro gb292 hg w9 hbox hb; have BK292 := Z0.mk hbox; have GW292 := fE HB hg; have GE292 := fE HB hg; replace HB := fB HB hb; clear hb hbox hg; obtain ⟨hcz10_0, hcz10_1, hfz10_0, hfz10_1⟩ := b2 BK292; have p293 : 0 ≤ ((ji5) : Int) := od; have q293 : (ji5) < (l0_1.length : Int) := od; obtain ⟨ad293, e293, hx293_0⟩ := Kd.at_int HR0_1.out (ji5) p293 q293; cases e293; replace hx293_0 := (HB.out.cell (World.block_lt_of_cell? w _ hx293_0)).trans hx293_0; replace p293 := eq_true p293; replace q293 := eq_true q293) | ((with_reducible refine gc_ 135 rfl ?_); refine goesL_ (some 19) rfl rfl Tryz.func135 (by kernel_rfl) rfl #[.int .i64 (rd l0_1 (ji5))] rfl (by (try simp only [List.map_toArray, List.map_cons, List.map_nil]); first | done | (simp only [hji5]; rfl) | rfl | (simp only [List.length_drop, List.length_take]; rfl)) ?_; (with_reducible refine (strconv_Itoa.calls (rd l0_1 (ji5)) t294 _ ?side1 A8.out).mono ?_); (case side1 => exact LaidW.below hL bqs); rintro e w11 ⟨rfl, hb⟩; refine ⟨_, rfl, ?_⟩; replace BK292 := fk BK292 hb; replace HB := fB HB hb; clear hb))
 go_ret
 exact ⟨by first | rfl | (simp [errW_none, errW_some] <;> rfl) | (simp only [← hji5]; first | rfl | (simp [errW_none, errW_some] <;> rfl)) | (simp [*, errW_none, errW_some] <;> rfl), bqs⟩
end Go.Proofs.YtihbebbabjklkaaGreatDoor.PA
namespace Go.Proofs
set_option linter.unusedVariables false
open Go.Shelf
def Tryz.laysB167_ren : Go.Shelf.Ren := ⟨fun | 167 => 133 | 240 => 181 | 276 => 205  | n => n, fun | 0 => 0 | 4 => 4 | 5 => 5 | 9 => 9 | 20 => 20 | 37 => 158 | 70 => 157 | 72 => 160 | 75 => 162 | 80 => 171 | 164 => 211  | n => n, fun | n => n⟩
theorem Tryz.laysB167 : Go.Proofs.Lays.n167 Tryz.prog Tryz.laysB167_ren := {
 mixed := by kernel_rfl
 f167 := Tryz.func133.trans (congrArg some (by kernel_rfl))
 f240 := Tryz.func181.trans (congrArg some (by kernel_rfl))
 f276 := Tryz.func205.trans (congrArg some (by kernel_rfl))
 t0 := Tryz.underlying0
 a0 := Tryz.isAgg0
 z0 := Tryz.sizeOf0
 v0 := Tryz.zeroValue0
 t4 := Tryz.underlying4
 a4 := Tryz.isAgg4
 z4 := Tryz.sizeOf4
 v4 := Tryz.zeroValue4
 t5 := Tryz.underlying5
 a5 := Tryz.isAgg5
 z5 := Tryz.sizeOf5
 v5 := Tryz.zeroValue5
 t9 := Tryz.underlying9
 a9 := Tryz.isAgg9
 z9 := Tryz.sizeOf9
 v9 := Tryz.zeroValue9
 t20 := Tryz.underlying20
 a20 := Tryz.isAgg20
 z20 := Tryz.sizeOf20
 v20 := Tryz.zeroValue20
 t37 := Tryz.underlying158
 a37 := Tryz.isAgg158
 z37 := Tryz.sizeOf158
 v37 := Tryz.zeroValue158
 t70 := Tryz.underlying157
 a70 := Tryz.isAgg157
 z70 := Tryz.sizeOf157
 v70 := Tryz.zeroValue157
 t72 := Tryz.underlying160
 a72 := Tryz.isAgg160
 z72 := Tryz.sizeOf160
 v72 := Tryz.zeroValue160
 t75 := Tryz.underlying162
 a75 := Tryz.isAgg162
 z75 := Tryz.sizeOf162
 v75 := Tryz.zeroValue162
 t164 := Tryz.underlying211
 a164 := Tryz.isAgg211
 z164 := Tryz.sizeOf211
 v164 := Tryz.zeroValue211 }
theorem Tryz.Builder_Extra_B167 : Builder.Extra Tryz.prog Tryz.laysB167_ren := {
 sizeBuilder := by kernel_rfl
 liesBuilder := by kernel_rfl
 t5 := Tryz.underlying5
 a5 := Tryz.isAgg5
 z5 := Tryz.sizeOf5
 v5 := Tryz.zeroValue5
 infoByte := by kernel_rfl
 cellsByte := by kernel_rfl
 sizeByte := by kernel_rfl
 neB5 := by decide }
def Tryz.laysB166_ren : Go.Shelf.Ren := ⟨fun | 166 => 136 | 240 => 181 | 276 => 205  | n => n, fun | 0 => 0 | 3 => 3 | 4 => 4 | 5 => 5 | 9 => 9 | 20 => 20 | 37 => 158 | 70 => 157 | 72 => 160 | 75 => 162 | 80 => 171 | 164 => 211  | n => n, fun | n => n⟩
theorem Tryz.laysB166 : Go.Proofs.Lays.n166 Tryz.prog Tryz.laysB166_ren := {
 mixed := by kernel_rfl
 f166 := Tryz.func136.trans (congrArg some (by kernel_rfl))
 f240 := Tryz.func181.trans (congrArg some (by kernel_rfl))
 f276 := Tryz.func205.trans (congrArg some (by kernel_rfl))
 t0 := Tryz.underlying0
 a0 := Tryz.isAgg0
 z0 := Tryz.sizeOf0
 v0 := Tryz.zeroValue0
 t3 := Tryz.underlying3
 a3 := Tryz.isAgg3
 z3 := Tryz.sizeOf3
 v3 := Tryz.zeroValue3
 t4 := Tryz.underlying4
 a4 := Tryz.isAgg4
 z4 := Tryz.sizeOf4
 v4 := Tryz.zeroValue4
 t9 := Tryz.underlying9
 a9 := Tryz.isAgg9
 z9 := Tryz.sizeOf9
 v9 := Tryz.zeroValue9
 t20 := Tryz.underlying20
 a20 := Tryz.isAgg20
 z20 := Tryz.sizeOf20
 v20 := Tryz.zeroValue20
 t37 := Tryz.underlying158
 a37 := Tryz.isAgg158
 z37 := Tryz.sizeOf158
 v37 := Tryz.zeroValue158
 t70 := Tryz.underlying157
 a70 := Tryz.isAgg157
 z70 := Tryz.sizeOf157
 v70 := Tryz.zeroValue157
 t72 := Tryz.underlying160
 a72 := Tryz.isAgg160
 z72 := Tryz.sizeOf160
 v72 := Tryz.zeroValue160
 t75 := Tryz.underlying162
 a75 := Tryz.isAgg162
 z75 := Tryz.sizeOf162
 v75 := Tryz.zeroValue162
 t164 := Tryz.underlying211
 a164 := Tryz.isAgg211
 z164 := Tryz.sizeOf211
 v164 := Tryz.zeroValue211 }
theorem Tryz.Builder_Extra_B166 : Builder.Extra Tryz.prog Tryz.laysB166_ren := {
 sizeBuilder := by kernel_rfl
 liesBuilder := by kernel_rfl
 t5 := Tryz.underlying5
 a5 := Tryz.isAgg5
 z5 := Tryz.sizeOf5
 v5 := Tryz.zeroValue5
 infoByte := by kernel_rfl
 cellsByte := by kernel_rfl
 sizeByte := by kernel_rfl
 neB5 := by decide }
open Go.RowKit in
theorem Tryz.Builder_WriteByte_k (B b : Nat) (bs : List Value) (c : Int) (w : World) (h : Lib.IsBuilderF 160 5 B b bs w) (hlen : bs.length + 1 ≤ 140737488355328) (hBw : B ≤ w.heap.size) :
  Calls Tryz.prog 133 #[.pointer (some ⟨b, 0, none⟩), .int .u8 c] w fun e w' => e = .returned .nilIface ∧ (Lib.BuilderAtF 160 5 B b (.pointer (some ⟨b, 0, none⟩)) (bs ++ [.int .u8 c]) w' ∧ Below B w w' ∧ Lib.OthersKept 5 (some b) w w') := Any.Builder_WriteByte_k Tryz.laysB167 Tryz.Builder_Extra_B167 B b bs c w h hlen hBw
open Go.RowKit in
theorem Tryz.Builder_WriteString_k (B b : Nat) (bs : List Value) (s : ByteArray) (w : World) (h : Lib.IsBuilderF 160 5 B b bs w) (hlen : bs.length + s.size ≤ 140737488355328) (hBw : B ≤ w.heap.size) :
  Calls Tryz.prog 136 #[.pointer (some ⟨b, 0, none⟩), .string s] w fun e w' => e = .returned (.tuple #[.int .i64 s.size, .nilIface]) ∧ (Lib.BuilderAtF 160 5 B b (.pointer (some ⟨b, 0, none⟩)) (bs ++ Lib.strCells s) w' ∧ Below B w w' ∧ Lib.OthersKept 5 (some b) w w') := Any.Builder_WriteString_k Tryz.laysB166 Tryz.Builder_Extra_B166 B b bs s w h hlen hBw
end Go.Proofs
namespace Go.Proofs.YtihbebbabjklkaaGreatDoor
set_option linter.unusedVariables false
set_option linter.unusedSimpArgs false
open Go.RowKit Go.Shelf Go.Proofs.WWords
attribute [local go_sem] Oper.semAt_some
theorem tacc_snoc (neg : Bool) {zs : List Int} (pre : List (BkT zs)) (x : BkT zs) : tacc neg (pre ++ [x]) = tacc neg pre ++ tstep zs.length x.1.1 x.1.2 := by simp [tacc]
theorem repeatL_length (k : Nat) : (Lib.repeatL [48] k).length = k := by
 induction k with
 | zero => rfl
 | succ k ih => simp [Lib.repeatL, ih]
theorem txt_small {v : Int} (h0 : 0 ≤ v) (h1 : v < 1000000000) : (Sv.txt v).size ≤ 9 := by
 rw [Sv.txt_size, if_neg (by omega)]
 have := Sv.nd_le (n := v) (k := 9) (by decide) (by omega)
 omega
theorem txtL_size (v : Int) : (Sv.txtL v).length = (Sv.txt v).size := by simp [Sv.txt, ByteArray.size]
theorem tstep_length {n : Nat} {i v : Int} (h0 : 0 ≤ v) (h1 : v < 1000000000) : (tstep n i v).length ≤ 9 := by
 have := txt_small h0 h1
 have h2 := txtL_size v
 unfold tstep
 split
 ·rw [List.length_append, repeatL_length]; omega
 omega
theorem tacc_length (neg : Bool) {zs : List Int} (hz : Sv.Digs Sv.LB zs) (pre : List (BkT zs)) : (tacc neg pre).length ≤ 1 + 9 * pre.length := by
 have h : (pre.flatMap fun x => tstep zs.length x.1.1 x.1.2).length ≤ 9 * pre.length := by
  induction pre with
  | nil => simp
  | cons x t ih =>
   have hv := rd_range (by decide) hz x.1.1
   rw [← x.2.2.2] at hv
   have := tstep_length (n := zs.length) (i := x.1.1) hv.1 hv.2
   simp only [List.flatMap_cons, List.length_append, List.length_cons]
   omega
 unfold tacc
 rw [List.length_append]
 have h2 : (if neg then [45] else ([] : List UInt8)).length ≤ 1 := by cases neg <;> decide
 omega
theorem isBuilderF_own {β : Type} (B b : Nat) (bs : β → List Value) : Own (fun (s : β) W => Lib.IsBuilderF 160 5 B b (bs s) W) := fun s A W row h hg hr => by
  have k : ∀ p, Lib.BuilderAtF 160 5 B b p (bs s) A → Lib.BuilderAtF 160 5 B b p (bs s) W := by
    rintro p ⟨h1, v, h2, h3, h4⟩
    refine ⟨h1, v, (hg.block b (Array.getElem?_eq_some_iff.1 h2).1 (fun e => ?_)).trans h2, h3.kept hg ?_, h4⟩
    · obtain ⟨o, ho, hc⟩ := hr b e.symm
      rw [h2] at ho
      cases ho
      cases hc
    · cases hv : v.ownBlock with
      | none => exact .inl rfl
      | some g =>
        refine .inr (fun e => ?_)
        obtain ⟨c, fz, hcc⟩ := Lib.ownsRowF_kind h3 g hv
        obtain ⟨o, ho, hc⟩ := hr g e.symm
        rw [hcc] at ho
        cases ho
        cases hc
  exact h.elim (fun x => .inl (k _ x)) (fun x => .inr (k _ x))
theorem isBuilderF_below {B b : Nat} {bs : List Value} {W W' : World} (h : Lib.IsBuilderF 160 5 B b bs W) (hb : Below W.heap.size W W') : Lib.IsBuilderF 160 5 B b bs W' :=
  isBuilderF_own (β := Unit) B b (fun _ => bs) () W W' none h ⟨hb.os, hb.tape, hb.output, hb.size, fun j hj _ => hb.block j hj⟩ (fun r e => by cases e)
theorem blk_own {β : Type} (b : Nat) (cs : β → Array Value) (t : TypeId) : Own (fun (s : β) W => W.heap[b]? = some (.cells (cs s) t (0, 0))) := fun s A W row h hg hr => by
  refine (hg.block b (Array.getElem?_eq_some_iff.1 h).1 (fun e => ?_)).trans h
  obtain ⟨o, ho, hc⟩ := hr b e.symm
  rw [h] at ho
  cases ho
  cases hc
theorem own_and {β : Type} {I J : β → World → Prop} (h : Own I) (g : Own J) : Own (fun s W => I s W ∧ J s W) := fun s A W row x hg hr => ⟨h s A W row x.1 hg hr, g s A W row x.2 hg hr⟩
def TxI (s : Nat) (neg : Bool) (A0 : Option Addr) (c0 : Nat) {zs : List Int} (pre : List (BkT zs)) (W : World) : Prop :=
  Lib.IsBuilderF 160 5 s (s + 1) (Lib.byteCells (tacc neg pre)) W ∧ W.heap[s]? = some (.cells #[.bool neg, .slice A0 zs.length c0] 122 (0, 0))
theorem TxI.own (s : Nat) (neg : Bool) (A0 : Option Addr) (c0 : Nat) {zs : List Int} : Own (TxI s neg A0 c0 (zs := zs)) := fun pre A W row h hg hr =>
  ⟨isBuilderF_own s (s + 1) (fun (pre : List (BkT zs)) => Lib.byteCells (tacc neg pre)) pre A W row h.1 hg hr, blk_own s (fun (_ : List (BkT zs)) => #[.bool neg, .slice A0 zs.length c0]) 122 pre A W row h.2 hg hr⟩
theorem new_builder (w : World) (cs : Array Value) : Lib.IsBuilderF 160 5 w.heap.size (w.heap.size + 1) [] ((w.alloc (.cells cs 122)).alloc (.cells #[.pointer none, .slice none 0 0] 160)) := by
 refine .inl ⟨by omega, .slice none 0 0, ?_, World.ownsRowF_nil _ _ _ _, by simp [Value.ownBlock]⟩
 have := World.alloc_heap_new (w.alloc (.cells cs 122)) (.cells #[.pointer none, .slice none 0 0] 160)
 simpa using this
theorem others_of {b : Option Nat} {w w' : World} (h : Lib.OthersKept 5 b w w') (hs : w.heap.size ≤ w'.heap.size) (hb : ∀ k, b = some k → ∃ o, w.heap[k]? = some o ∧ o.isCells = true) : KeepsOthers w w' :=
  ⟨hs, fun k o ho hc => h k o ho (fun e => by obtain ⟨o', ho', hc'⟩ := hb k e.symm; rw [ho] at ho'; cases ho'; rw [hc] at hc'; cases hc') (fun c fz e => by rw [e] at hc; cases hc)⟩
theorem text_in (n : Nat) (hn : 3 ≤ n) (neg : Bool) (A0 : Option Addr) (c0 : Nat) (l0 : List Int) (w : World) (hL : LaidW w) (hr0 : Kd.C (Kd.int .i64) w A0 l0.length l0) (hz : Sv.Digs Sv.LB l0) (hlen : l0.length ≤ 1099511627776) (hne : 0 < l0.length) :
    CallsIn Fence.wide n Tryz.prog 98 #[.agg #[.bool neg, .slice A0 l0.length c0]] w fun e w' => e = .returned (.string ⟨(tacc neg (bk l0 l0.length)).toArray⟩) ∧ Below w.heap.size w w' := by
 have hf127 : Fence.wide.fn 133 := trivial
 have hf128 : Fence.wide.fn 134 := trivial
 have hf132 : Fence.wide.fn 138 := trivial
 have h1' : 1 ≤ n := by omega
 have hu88 := Tryz.underlying122
 have hz0 : ((l0.length : Int) == 0) = false := by rw [beq_eq_false_iff_ne]; omega
 have hz1 : ¬ (l0.length : Int) = 0 := by omega
 have hz2 : ¬ l0.length = 0 := by omega
 have hnb := new_builder w #[.bool neg, .slice A0 l0.length c0]
 have hx0 : ((w.alloc (.cells #[.bool neg, .slice A0 l0.length c0] 122)).alloc (.cells #[.pointer none, .slice none 0 0] 160)).heap[w.heap.size]? = some (.cells #[.bool neg, .slice A0 l0.length c0] 122 (0, 0)) := (Below.heap_alloc _ _ _ (by simp)).trans (World.alloc_heap_new w _)
 have hB0 : Below w.heap.size w ((w.alloc (.cells #[.bool neg, .slice A0 l0.length c0] 122)).alloc (.cells #[.pointer none, .slice none 0 0] 160)) := ((Below.refl _ w).alloc (Nat.le_refl _) _).alloc (by simp) _
 cases neg
 all_goals refine callsIn_of_wp_marks Tryz.func98 rfl trivial ?_ rfl
 all_goals simp only [Tryz.ntmps98, List.size_toArray, List.length_cons, List.length_nil, Nat.reduceAdd, Nat.reduceSub, Array.replicate_succ, Array.replicate_zero, List.push_toArray, List.append_toArray, List.nil_append, List.cons_append]
 all_goals gi_wp2_with (first
   | (gi_at_call 133; refine (callsIn_wide.2 (Tryz.Builder_WriteByte_k w.heap.size (w.heap.size + 1) [] 45 _ hnb (by simp) (by simp; omega))).mono ?_; rintro e w1 ⟨rfl, hb1, hB1, hok1⟩; have hx1 := hok1 _ _ hx0 (by simp) (by intro c fz e; cases e); have hxc1 := (blk_cell hx1 1).trans (show _ = some (Value.slice A0 l0.length c0) from rfl))
   | (gi_at_call 134; refine (back_in Fence.wide (n - 1) hf128 rfl _ _ _ _).mono ?_; rintro e w' ⟨rfl, rfl⟩)
   | gi_in)
 obtain ⟨W1, hW1⟩ : ∃ W1, (w.alloc (.cells #[.bool false, .slice A0 l0.length c0] 122)).alloc (.cells #[.pointer none, .slice none 0 0] 160) = W1 := ⟨_, rfl⟩
 rw [hW1] at hnb hx0 hB0
 have hsz1 : w.heap.size + 1 + 1 = W1.heap.size := by rw [← hW1]; simp
 have hbu : Lib.IsBuilderF 160 5 w.heap.size (w.heap.size + 1) (Lib.byteCells (tacc false ([] : List (BkT l0)))) W1 := hnb
 rw [hW1, hsz1]
 clear hW1
 rotate_left 1
 obtain ⟨W1, hW1⟩ : ∃ W1, w1 = W1 := ⟨_, rfl⟩
 have hbu : Lib.IsBuilderF 160 5 w.heap.size (w.heap.size + 1) (Lib.byteCells (tacc true ([] : List (BkT l0)))) W1 := by rw [← hW1]; exact .inr hb1
 have hB2 : Below w.heap.size w W1 := by rw [← hW1]; exact hB0.trans hB1
 rw [hW1] at hx1
 rw [hW1]
 clear hB0 hx0
 have hB0 := hB2
 have hx0 := hx1
 clear hB2 hx1 hW1
 rotate_left 1
 -- MAIN
 ·obtain ⟨s, hs⟩ : ∃ s, w.heap.size = s := ⟨_, rfl⟩
  rw [hs] at hbu hB0 hx0
  simp only [hs]
  obtain ⟨W0, hW0⟩ : ∃ W0, W1.alloc (.cells #[.slice A0 l0.length c0] 35) = W0 := ⟨_, rfl⟩
  have hbx : Boxed W0 W1.heap.size 35 (.slice A0 l0.length c0) := by rw [← hW0]; exact Boxed.new _ _ _
  have hBW : Below s w W0 := by rw [← hW0]; exact hB0.alloc (by have := hB0.size; omega) _
  have hI0 := isBuilderF_below hbu (show Below W1.heap.size W1 W0 by rw [← hW0]; exact (Below.refl _ _).alloc (Nat.le_refl _) _)
  have hxx := (show Below W1.heap.size W1 W0 by rw [← hW0]; exact (Below.refl _ _).alloc (Nat.le_refl _) _).block s (Array.getElem?_eq_some_iff.1 hx0).1 |>.trans hx0
  have hs1 : s + 2 ≤ W1.heap.size := by
   have hc : (Lib.IsBuilderF 160 5 s (s + 1) _ W1) := hbu
   rcases hc with h | h
   ·have := h.lt; omega
   have := h.lt; omega
  have hs0 : W1.heap.size < W0.heap.size := by rw [← hW0]; simp
  rw [hW0]
  clear hW0
  have hm0 := Kd.C_max hr0
  refine wpIn_rangeFunc_ownF rfl h1' (gf := 182) (lb := #[.pointer (some ⟨W1.heap.size, 0, none⟩)]) rfl trivial (enters_of Tryz.func182 (by kernel_rfl) rfl)
   (back_stops Fence.wide (n - 1) trivial rfl (by omega) W1.heap.size s A0 c0 l0 hm0 W0 hbx (by have := hBW.size; omega) (fun W' hb => Kd.C_below hr0 (by rw [hs]; exact hBW.trans hb))) kb_t (kb_b (by have := hBW.size; omega) hs0) (Below.refl _ _) (fun _ => rfl)
   (fun pre W => (TxI s false A0 c0 pre W ∧ W.heap[W1.heap.size]? = some (.cells #[.slice A0 l0.length c0] 35 (0, 0))) ∧ Below s w W) (fun c pre W => False)
   (OwnFrom.and (Own.from (own_and (TxI.own s false A0 c0) (blk_own W1.heap.size (fun _ => #[.slice A0 l0.length c0]) 35)) _) (ownFrom_below (by omega) (by have := hBW.size; omega)))
   (fun c s A B row hs hg hr => hs) ⟨⟨⟨hI0, hxx⟩, hbx⟩, hBW⟩
   ?act1 ?assign ?body ?done ?stop
  case assign =>
   intro l x W K hK
   simp only [enc2]
   gi_wp2
   exact hK
  case body =>
   rintro l pre x W ⟨⟨⟨hbu, hx⟩, hbW⟩, hB⟩ hpl
   have hv := rd_range (by decide) hz x.1.1
   rw [← x.2.2.2] at hv
   have hsn := tacc_snoc false pre x
   have htl := tacc_length false hz pre
   try simp only [enc2]
   obtain ⟨i, hxi⟩ : ∃ i, x.1.1 = i := ⟨_, rfl⟩
   obtain ⟨v, hxv⟩ : ∃ v, x.1.2 = v := ⟨_, rfl⟩
   simp only [hxi, hxv] at hv hsn ⊢
   clear hxi hxv
   have hv1 : v < 1000000000 := hv.2
   have hv0 := hv.1
   have hts := txt_small hv0 hv1
   have hxc := (blk_cell hx 1).trans (show _ = some (Value.slice A0 l0.length c0) from rfl)
   have hd2 : 1 ≤ n - 1 - 1 := by omega
   have hf129 : Fence.wide.fn 135 := trivial
   have hf130 : Fence.wide.fn 136 := trivial
   have hf131 : Fence.wide.fn 137 := trivial
   have hLW : LaidW W := hL.below (by rw [hs]; exact hB)
   have hbl : (Lib.byteCells (tacc false pre)).length ≤ 1 + 9 * pre.length := by simp only [Lib.byteCells, List.length_map]; exact htl
   have hcz : (9 : Int) - ((Sv.txt v).size : Int) = ((9 - (Sv.txt v).size : Nat) : Int) := by omega
   have hrs : (⟨(Lib.repeatL [48] (9 - (Sv.txt v).size)).toArray⟩ : ByteArray).size = 9 - (Sv.txt v).size := by
    show (Lib.repeatL [48] (9 - (Sv.txt v).size)).toArray.size = _
    rw [List.size_toArray, repeatL_length]
   have hit : Lib.strCells (Sv.txt v) = Lib.byteCells (Sv.txtL v) := rfl
   have hir : Lib.strCells (⟨(Lib.repeatL [48] (9 - (Sv.txt v).size)).toArray⟩ : ByteArray) = Lib.byteCells (Lib.repeatL [48] (9 - (Sv.txt v).size)) := rfl
   have hBs := hB.size
   have hws : w.heap.size ≤ W.heap.size := hBs
   have hBW2 : s ≤ W.heap.size := by omega
   by_cases hi : i < (l0.length : Int) - 1
   ·have hsn2 : tacc false (pre ++ [x]) = tacc false pre ++ (Lib.repeatL [48] (9 - (Sv.txt v).size) ++ Sv.txtL v) := by rw [hsn, tstep, if_pos hi]
    have HS := Lib.hid hsn2
    clear hsn hsn2 hv
    have hi2 : decide (i < (l0.length : Int) - 1) = true := decide_eq_true hi
    gi_wp2_with (first
      | (gi_at_call 135; refine (CallsIn.inRound l (callsIn_wide.2 (strconv_Itoa.calls v (Sv.txt v) W hLW (if_pos ⟨by omega, by omega⟩)))).mono ?_; rintro e wa ⟨rfl, hba⟩
         have hbua := isBuilderF_below hbu hba
         have hxa := (hba.block s (Array.getElem?_eq_some_iff.1 hx).1).trans hx
         have hxca := (blk_cell hxa 1).trans (show _ = some (Value.slice A0 l0.length c0) from rfl))
      | (gi_at_call 137; refine (CallsIn.inRound l (callsIn_wide.2 (Tryz.strings_Repeat (⟨#[48]⟩ : ByteArray) (9 - (Sv.txt v).size) wa (by omega) (by show 1 * _ ≤ _; omega)))).mono ?_; rintro e wb ⟨rfl, hbb⟩
         have hbub := isBuilderF_below hbua hbb
         have hxb := (hbb.block s (Array.getElem?_eq_some_iff.1 hxa).1).trans hxa
         have hszb : s ≤ wb.heap.size := by have h1 := hba.size; have h2 := hbb.size; omega)
      | (gi_at_call 136; refine (CallsIn.inRound l (callsIn_wide.2 (Tryz.Builder_WriteString_k s (s + 1) _ (Sv.txt v) wc (.inr hbuc) (by simp only [List.length_append, hir]; simp only [Lib.byteCells, List.length_map, repeatL_length] at hbl ⊢; omega) hszc))).mono ?_; rintro e wd ⟨rfl, hbud, hBd, hokd⟩
         have hxd := hokd _ _ hxc2 (by simp) (by intro c fz e; cases e))
      | (gi_at_call 136; refine (CallsIn.inRound l (callsIn_wide.2 (Tryz.Builder_WriteString_k s (s + 1) _ (⟨(Lib.repeatL [48] (9 - (Sv.txt v).size)).toArray⟩ : ByteArray) wb hbub (by rw [hrs]; omega) hszb))).mono ?_; rintro e wc ⟨rfl, hbuc, hBc, hokc⟩
         have hxc2 := hokc _ _ hxb (by simp) (by intro c fz e; cases e)
         have hszc : s ≤ wc.heap.size := by have h1 := hBc.size; omega)
      | gi_in)
    have hbS : ∀ (a b : World), Below a.heap.size a b → KeepsOthers a b := fun a b h => ⟨h.size, fun k o ho hc => (h.block k (Array.getElem?_eq_some_iff.1 ho).1).trans ho⟩
    have hbc1 : ∀ (W : World) (bs : List Value), Lib.IsBuilderF 160 5 s (s + 1) bs W → ∀ k, some (s + 1) = some k → ∃ o, W.heap[k]? = some o ∧ o.isCells = true := fun W bs h k e => by
     cases e
     rcases h with ⟨_, v, h2, _⟩ | ⟨_, v, h2, _⟩ <;> exact ⟨_, h2, rfl⟩
    have hbWl := (Array.getElem?_eq_some_iff.1 hbW).1
    have hkw : wd.heap[W1.heap.size]? = W.heap[W1.heap.size]? :=
     (hokd _ _ (hokc _ _ ((hbb.block _ (Nat.lt_of_lt_of_le hbWl hba.size)).trans ((hba.block _ hbWl).trans hbW)) (by simp; omega) (by intro c fz e; cases e)) (by simp; omega) (by intro c fz e; cases e)).trans hbW.symm
    have hBe : Below s W wd := ((hba.mono hBW2).trans (hbb.mono (by have := hba.size; omega))).trans (hBc.trans hBd)
    refine ⟨((hbS _ _ hba).trans (hbS _ _ hbb)).trans ((others_of hokc hBc.size (hbc1 _ _ hbub)).trans (others_of hokd hBd.size (hbc1 _ _ (.inr hbuc)))), ⟨hBe, fun _ => hkw⟩, ⟨⟨?_, hxd⟩, hkw.trans hbW⟩, hB.trans hBe⟩
    rw [HS.out]
    have := hbud
    rw [hit, hir, List.append_assoc] at this
    exact .inr (by simpa [Lib.byteCells] using this)
   have hsn2 : tacc false (pre ++ [x]) = tacc false pre ++ Sv.txtL v := by rw [hsn, tstep, if_neg hi]
   have HS := Lib.hid hsn2
   clear hsn hsn2 hv
   have hi2 : decide (i < (l0.length : Int) - 1) = false := decide_eq_false hi
   gi_wp2_with (first
     | (gi_at_call 135; refine (CallsIn.inRound l (callsIn_wide.2 (strconv_Itoa.calls v (Sv.txt v) W hLW (if_pos ⟨by omega, by omega⟩)))).mono ?_; rintro e wa ⟨rfl, hba⟩
        have hbua := isBuilderF_below hbu hba
        have hxa := (hba.block s (Array.getElem?_eq_some_iff.1 hx).1).trans hx
        have hxca := (blk_cell hxa 1).trans (show _ = some (Value.slice A0 l0.length c0) from rfl)
        have hsza : s ≤ wa.heap.size := by have h1 := hba.size; omega)
     | (gi_at_call 136; refine (CallsIn.inRound l (callsIn_wide.2 (Tryz.Builder_WriteString_k s (s + 1) _ (Sv.txt v) wa hbua (by omega) hsza))).mono ?_; rintro e wd ⟨rfl, hbud, hBd, hokd⟩
        have hxd := hokd _ _ hxa (by simp) (by intro c fz e; cases e))
     | gi_in)
   have hbS : ∀ (a b : World), Below a.heap.size a b → KeepsOthers a b := fun a b h => ⟨h.size, fun k o ho hc => (h.block k (Array.getElem?_eq_some_iff.1 ho).1).trans ho⟩
   have hbc1 : ∀ (W : World) (bs : List Value), Lib.IsBuilderF 160 5 s (s + 1) bs W → ∀ k, some (s + 1) = some k → ∃ o, W.heap[k]? = some o ∧ o.isCells = true := fun W bs h k e => by
    cases e
    rcases h with ⟨_, v, h2, _⟩ | ⟨_, v, h2, _⟩ <;> exact ⟨_, h2, rfl⟩
   have hbWl := (Array.getElem?_eq_some_iff.1 hbW).1
   have hkw : wd.heap[W1.heap.size]? = W.heap[W1.heap.size]? :=
    (hokd _ _ ((hba.block _ hbWl).trans hbW) (by simp; omega) (by intro c fz e; cases e)).trans hbW.symm
   have hBe : Below s W wd := (hba.mono hBW2).trans hBd
   refine ⟨(hbS _ _ hba).trans (others_of hokd hBd.size (hbc1 _ _ hbua)), ⟨hBe, fun _ => hkw⟩, ⟨⟨?_, hxd⟩, hkw.trans hbW⟩, hB.trans hBe⟩
   rw [HS.out]
   have := hbud
   rw [hit] at this
   exact .inr (by simpa [Lib.byteCells] using this)
  case done =>
   rintro D ys W hD rfl ⟨⟨⟨hbu, hx⟩, hbW⟩, hB⟩ hK
   have hf132 : Fence.wide.fn 138 := trivial
   have hBW2 : s ≤ W.heap.size := by have := hB.size; omega
   gi_wp2_with (first
     | (gi_at_call 138; refine (callsIn_wide.2 (Tryz.Builder_String_any_k s (s + 1) (tacc false (bk l0 l0.length)) W hbu hBW2)).mono ?_; rintro e wz ⟨rfl, hbz, hBz, hokz⟩)
     | gi_in)
   have hDs : D ≠ s + 1 := by
    intro e
    subst e
    rcases hbu with ⟨_, v, h2, _⟩ | ⟨_, v, h2, _⟩ <;> (rw [h2] at hK; cases hK)
   have hKz := hokz _ _ hK (by simp; omega) (by intro c fz e; cases e)
   have hDw : w.heap.size ≤ D := by omega
   refine ⟨by simp, .inl ⟨_, _, rfl, run_takeDeferred hKz, ?_⟩⟩
   exact ⟨.string ⟨(tacc false (bk l0 l0.length)).toArray⟩, by simp [results, Tryz.f98, go_sem], rfl, (show Below w.heap.size w wz by rw [hs]; exact hB.trans hBz).trans (belowK_b (w := w) (Nat.le_refl _) wz D _ _ (by omega) hKz rfl rfl)⟩
  case stop =>
   rintro D c pre W hD hp hf hK
   exact hf.elim
 obtain ⟨s, hs⟩ : ∃ s, w.heap.size = s := ⟨_, rfl⟩
 rw [hs] at hbu hB0 hx0
 simp only [hs]
 obtain ⟨W0, hW0⟩ : ∃ W0, W1.alloc (.cells #[.slice A0 l0.length c0] 35) = W0 := ⟨_, rfl⟩
 have hbx : Boxed W0 W1.heap.size 35 (.slice A0 l0.length c0) := by rw [← hW0]; exact Boxed.new _ _ _
 have hBW : Below s w W0 := by rw [← hW0]; exact hB0.alloc (by have := hB0.size; omega) _
 have hI0 := isBuilderF_below hbu (show Below W1.heap.size W1 W0 by rw [← hW0]; exact (Below.refl _ _).alloc (Nat.le_refl _) _)
 have hxx := (show Below W1.heap.size W1 W0 by rw [← hW0]; exact (Below.refl _ _).alloc (Nat.le_refl _) _).block s (Array.getElem?_eq_some_iff.1 hx0).1 |>.trans hx0
 have hs1 : s + 2 ≤ W1.heap.size := by
  have hc : (Lib.IsBuilderF 160 5 s (s + 1) _ W1) := hbu
  rcases hc with h | h
  ·have := h.lt; omega
  have := h.lt; omega
 have hs0 : W1.heap.size < W0.heap.size := by rw [← hW0]; simp
 rw [hW0]
 clear hW0
 have hm0 := Kd.C_max hr0
 refine wpIn_rangeFunc_ownF rfl h1' (gf := 182) (lb := #[.pointer (some ⟨W1.heap.size, 0, none⟩)]) rfl trivial (enters_of Tryz.func182 (by kernel_rfl) rfl)
  (back_stops Fence.wide (n - 1) trivial rfl (by omega) W1.heap.size s A0 c0 l0 hm0 W0 hbx (by have := hBW.size; omega) (fun W' hb => Kd.C_below hr0 (by rw [hs]; exact hBW.trans hb))) kb_t (kb_b (by have := hBW.size; omega) hs0) (Below.refl _ _) (fun _ => rfl)
  (fun pre W => (TxI s true A0 c0 pre W ∧ W.heap[W1.heap.size]? = some (.cells #[.slice A0 l0.length c0] 35 (0, 0))) ∧ Below s w W) (fun c pre W => False)
  (OwnFrom.and (Own.from (own_and (TxI.own s true A0 c0) (blk_own W1.heap.size (fun _ => #[.slice A0 l0.length c0]) 35)) _) (ownFrom_below (by omega) (by have := hBW.size; omega)))
  (fun c s A B row hs hg hr => hs) ⟨⟨⟨hI0, hxx⟩, hbx⟩, hBW⟩
  ?act1T ?assignT ?bodyT ?doneT ?stopT
 case assignT =>
  intro l x W K hK
  simp only [enc2]
  gi_wp2
  exact hK
 case bodyT =>
  rintro l pre x W ⟨⟨⟨hbu, hx⟩, hbW⟩, hB⟩ hpl
  have hv := rd_range (by decide) hz x.1.1
  rw [← x.2.2.2] at hv
  have hsn := tacc_snoc true pre x
  have htl := tacc_length true hz pre
  try simp only [enc2]
  obtain ⟨i, hxi⟩ : ∃ i, x.1.1 = i := ⟨_, rfl⟩
  obtain ⟨v, hxv⟩ : ∃ v, x.1.2 = v := ⟨_, rfl⟩
  simp only [hxi, hxv] at hv hsn ⊢
  clear hxi hxv
  have hv1 : v < 1000000000 := hv.2
  have hv0 := hv.1
  have hts := txt_small hv0 hv1
  have hxc := (blk_cell hx 1).trans (show _ = some (Value.slice A0 l0.length c0) from rfl)
  have hd2 : 1 ≤ n - 1 - 1 := by omega
  have hf129 : Fence.wide.fn 135 := trivial
  have hf130 : Fence.wide.fn 136 := trivial
  have hf131 : Fence.wide.fn 137 := trivial
  have hLW : LaidW W := hL.below (by rw [hs]; exact hB)
  have hbl : (Lib.byteCells (tacc true pre)).length ≤ 1 + 9 * pre.length := by simp only [Lib.byteCells, List.length_map]; exact htl
  have hcz : (9 : Int) - ((Sv.txt v).size : Int) = ((9 - (Sv.txt v).size : Nat) : Int) := by omega
  have hrs : (⟨(Lib.repeatL [48] (9 - (Sv.txt v).size)).toArray⟩ : ByteArray).size = 9 - (Sv.txt v).size := by
   show (Lib.repeatL [48] (9 - (Sv.txt v).size)).toArray.size = _
   rw [List.size_toArray, repeatL_length]
  have hit : Lib.strCells (Sv.txt v) = Lib.byteCells (Sv.txtL v) := rfl
  have hir : Lib.strCells (⟨(Lib.repeatL [48] (9 - (Sv.txt v).size)).toArray⟩ : ByteArray) = Lib.byteCells (Lib.repeatL [48] (9 - (Sv.txt v).size)) := rfl
  have hBs := hB.size
  have hws : w.heap.size ≤ W.heap.size := hBs
  have hBW2 : s ≤ W.heap.size := by omega
  by_cases hi : i < (l0.length : Int) - 1
  ·have hsn2 : tacc true (pre ++ [x]) = tacc true pre ++ (Lib.repeatL [48] (9 - (Sv.txt v).size) ++ Sv.txtL v) := by rw [hsn, tstep, if_pos hi]
   have HS := Lib.hid hsn2
   clear hsn hsn2 hv
   have hi2 : decide (i < (l0.length : Int) - 1) = true := decide_eq_true hi
   gi_wp2_with (first
     | (gi_at_call 135; refine (CallsIn.inRound l (callsIn_wide.2 (strconv_Itoa.calls v (Sv.txt v) W hLW (if_pos ⟨by omega, by omega⟩)))).mono ?_; rintro e wa ⟨rfl, hba⟩
        have hbua := isBuilderF_below hbu hba
        have hxa := (hba.block s (Array.getElem?_eq_some_iff.1 hx).1).trans hx
        have hxca := (blk_cell hxa 1).trans (show _ = some (Value.slice A0 l0.length c0) from rfl))
     | (gi_at_call 137; refine (CallsIn.inRound l (callsIn_wide.2 (Tryz.strings_Repeat (⟨#[48]⟩ : ByteArray) (9 - (Sv.txt v).size) wa (by omega) (by show 1 * _ ≤ _; omega)))).mono ?_; rintro e wb ⟨rfl, hbb⟩
        have hbub := isBuilderF_below hbua hbb
        have hxb := (hbb.block s (Array.getElem?_eq_some_iff.1 hxa).1).trans hxa
        have hszb : s ≤ wb.heap.size := by have h1 := hba.size; have h2 := hbb.size; omega)
     | (gi_at_call 136; refine (CallsIn.inRound l (callsIn_wide.2 (Tryz.Builder_WriteString_k s (s + 1) _ (Sv.txt v) wc (.inr hbuc) (by simp only [List.length_append, hir]; simp only [Lib.byteCells, List.length_map, repeatL_length] at hbl ⊢; omega) hszc))).mono ?_; rintro e wd ⟨rfl, hbud, hBd, hokd⟩
        have hxd := hokd _ _ hxc2 (by simp) (by intro c fz e; cases e))
     | (gi_at_call 136; refine (CallsIn.inRound l (callsIn_wide.2 (Tryz.Builder_WriteString_k s (s + 1) _ (⟨(Lib.repeatL [48] (9 - (Sv.txt v).size)).toArray⟩ : ByteArray) wb hbub (by rw [hrs]; omega) hszb))).mono ?_; rintro e wc ⟨rfl, hbuc, hBc, hokc⟩
        have hxc2 := hokc _ _ hxb (by simp) (by intro c fz e; cases e)
        have hszc : s ≤ wc.heap.size := by have h1 := hBc.size; omega)
     | gi_in)
   have hbS : ∀ (a b : World), Below a.heap.size a b → KeepsOthers a b := fun a b h => ⟨h.size, fun k o ho hc => (h.block k (Array.getElem?_eq_some_iff.1 ho).1).trans ho⟩
   have hbc1 : ∀ (W : World) (bs : List Value), Lib.IsBuilderF 160 5 s (s + 1) bs W → ∀ k, some (s + 1) = some k → ∃ o, W.heap[k]? = some o ∧ o.isCells = true := fun W bs h k e => by
    cases e
    rcases h with ⟨_, v, h2, _⟩ | ⟨_, v, h2, _⟩ <;> exact ⟨_, h2, rfl⟩
   have hbWl := (Array.getElem?_eq_some_iff.1 hbW).1
   have hkw : wd.heap[W1.heap.size]? = W.heap[W1.heap.size]? :=
    (hokd _ _ (hokc _ _ ((hbb.block _ (Nat.lt_of_lt_of_le hbWl hba.size)).trans ((hba.block _ hbWl).trans hbW)) (by simp; omega) (by intro c fz e; cases e)) (by simp; omega) (by intro c fz e; cases e)).trans hbW.symm
   have hBe : Below s W wd := ((hba.mono hBW2).trans (hbb.mono (by have := hba.size; omega))).trans (hBc.trans hBd)
   refine ⟨((hbS _ _ hba).trans (hbS _ _ hbb)).trans ((others_of hokc hBc.size (hbc1 _ _ hbub)).trans (others_of hokd hBd.size (hbc1 _ _ (.inr hbuc)))), ⟨hBe, fun _ => hkw⟩, ⟨⟨?_, hxd⟩, hkw.trans hbW⟩, hB.trans hBe⟩
   rw [HS.out]
   have := hbud
   rw [hit, hir, List.append_assoc] at this
   exact .inr (by simpa [Lib.byteCells] using this)
  have hsn2 : tacc true (pre ++ [x]) = tacc true pre ++ Sv.txtL v := by rw [hsn, tstep, if_neg hi]
  have HS := Lib.hid hsn2
  clear hsn hsn2 hv
  have hi2 : decide (i < (l0.length : Int) - 1) = false := decide_eq_false hi
  gi_wp2_with (first
    | (gi_at_call 135; refine (CallsIn.inRound l (callsIn_wide.2 (strconv_Itoa.calls v (Sv.txt v) W hLW (if_pos ⟨by omega, by omega⟩)))).mono ?_; rintro e wa ⟨rfl, hba⟩
       have hbua := isBuilderF_below hbu hba
       have hxa := (hba.block s (Array.getElem?_eq_some_iff.1 hx).1).trans hx
       have hxca := (blk_cell hxa 1).trans (show _ = some (Value.slice A0 l0.length c0) from rfl)
       have hsza : s ≤ wa.heap.size := by have h1 := hba.size; omega)
    | (gi_at_call 136; refine (CallsIn.inRound l (callsIn_wide.2 (Tryz.Builder_WriteString_k s (s + 1) _ (Sv.txt v) wa hbua (by omega) hsza))).mono ?_; rintro e wd ⟨rfl, hbud, hBd, hokd⟩
       have hxd := hokd _ _ hxa (by simp) (by intro c fz e; cases e))
    | gi_in)
  have hbS : ∀ (a b : World), Below a.heap.size a b → KeepsOthers a b := fun a b h => ⟨h.size, fun k o ho hc => (h.block k (Array.getElem?_eq_some_iff.1 ho).1).trans ho⟩
  have hbc1 : ∀ (W : World) (bs : List Value), Lib.IsBuilderF 160 5 s (s + 1) bs W → ∀ k, some (s + 1) = some k → ∃ o, W.heap[k]? = some o ∧ o.isCells = true := fun W bs h k e => by
   cases e
   rcases h with ⟨_, v, h2, _⟩ | ⟨_, v, h2, _⟩ <;> exact ⟨_, h2, rfl⟩
  have hbWl := (Array.getElem?_eq_some_iff.1 hbW).1
  have hkw : wd.heap[W1.heap.size]? = W.heap[W1.heap.size]? :=
   (hokd _ _ ((hba.block _ hbWl).trans hbW) (by simp; omega) (by intro c fz e; cases e)).trans hbW.symm
  have hBe : Below s W wd := (hba.mono hBW2).trans hBd
  refine ⟨(hbS _ _ hba).trans (others_of hokd hBd.size (hbc1 _ _ hbua)), ⟨hBe, fun _ => hkw⟩, ⟨⟨?_, hxd⟩, hkw.trans hbW⟩, hB.trans hBe⟩
  rw [HS.out]
  have := hbud
  rw [hit] at this
  exact .inr (by simpa [Lib.byteCells] using this)
 case doneT =>
  rintro D ys W hD rfl ⟨⟨⟨hbu, hx⟩, hbW⟩, hB⟩ hK
  have hf132 : Fence.wide.fn 138 := trivial
  have hBW2 : s ≤ W.heap.size := by have := hB.size; omega
  gi_wp2_with (first
    | (gi_at_call 138; refine (callsIn_wide.2 (Tryz.Builder_String_any_k s (s + 1) (tacc true (bk l0 l0.length)) W hbu hBW2)).mono ?_; rintro e wz ⟨rfl, hbz, hBz, hokz⟩)
    | gi_in)
  have hDs : D ≠ s + 1 := by
   intro e
   subst e
   rcases hbu with ⟨_, v, h2, _⟩ | ⟨_, v, h2, _⟩ <;> (rw [h2] at hK; cases hK)
  have hKz := hokz _ _ hK (by simp; omega) (by intro c fz e; cases e)
  have hDw : w.heap.size ≤ D := by omega
  refine ⟨by simp, .inl ⟨_, _, rfl, run_takeDeferred hKz, ?_⟩⟩
  exact ⟨.string ⟨(tacc true (bk l0 l0.length)).toArray⟩, by simp [results, Tryz.f98, go_sem], rfl, (show Below w.heap.size w wz by rw [hs]; exact hB.trans hBz).trans (belowK_b (w := w) (Nat.le_refl _) wz D _ _ (by omega) hKz rfl rfl)⟩
 case stopT =>
  rintro D c pre W hD hp hf hK
  exact hf.elim
theorem bInumber_text.calls (a0_0 : Bool) (A0_1 : Option Addr) (c0_1 : Nat) (l0_1 : List Int) (r : ByteArray) (w : World) (hL : LaidW w) (hr0_1 : Kd.C (Kd.int .i64) w A0_1 l0_1.length l0_1) (hc0_1 : l0_1.length ≤ c0_1) (h : bInumber_text.f a0_0 l0_1 = some r) :
    Calls Tryz.prog 98 #[.agg #[.bool a0_0, .slice A0_1 l0_1.length c0_1]] w fun e w' => e = .returned (.string r) ∧ Below w.heap.size w w' := by
 unfold bInumber_text.f at h
 split at h
 ·rename_i hc
  simp only [Option.some.injEq] at h
  subst h
  by_cases hl : l0_1 = []
  ·subst hl
   rw [if_pos rfl]
   go_enter Tryz.func98, Tryz.ntmps98
   go_wp2
   refine ⟨by simp, ?_⟩
   exact ⟨.string ⟨#[48]⟩, by simp [results, Tryz.f98, go_sem], rfl, (Below.refl _ w).alloc (Nat.le_refl _) _⟩
  rw [if_neg hl]
  exact callsIn_wide.1 (text_in 3 (by omega) a0_0 A0_1 c0_1 l0_1 w hL hr0_1 hc.1 hc.2 (List.length_pos_iff.2 hl))
 cases h
end Go.Proofs.YtihbebbabjklkaaGreatDoor
namespace Go.Proofs.YtihbebbabjklkaaGreatDoor.PA
set_option linter.unusedVariables false
open Go.RowKit Go.Proofs.WWords Go.Proofs.WLast Go.Proofs.WMore
attribute [local go_sem] max2_int min2_int max_two min_two max_three min_three max_four min_four
set_option linter.unusedSimpArgs false
theorem bIwritten.calls (a0_0 : Bool) (A0_1 : Option Addr) (c0_1 : Nat) (l0_1 : List Int) (r1 : ByteArray) (r2 : Int) (w : World) (hL : LaidW w) (hr0_1 : Kd.C (Kd.int .i64) w A0_1 l0_1.length l0_1) (hc0_1 : l0_1.length ≤ c0_1) (h : bIwritten.f a0_0 l0_1 = some (r1, r2)) :
  Calls Tryz.prog 106 #[.agg #[.bool a0_0, .slice A0_1 l0_1.length c0_1]] w fun e w' => e = .returned (.tuple #[.string r1, .int .i64 r2]) ∧ Below w.heap.size w w' := by
 have hu88 := Tryz.underlying122
 have HR0_1 := Z0.mk hr0_1
 have HC0_1 := Z0.mk hc0_1
 clear hr0_1 hc0_1
 have HB := Z0.mk (Below.refl w.heap.size w)
 have H := h
 clear h
 unfold bIwritten.f at H
 obtain ⟨t296, A2, H⟩ := bnd H
 rcases jg H with ⟨-, c3b0, H⟩ | ⟨-, c3b0, H⟩
 ·simp only [Option.some.injEq, Prod.mk.injEq] at H
  obtain ⟨rfl, rfl⟩ := H
  go_enter Tryz.func106, Tryz.ntmps106
  go_wp2_with (first | ((with_reducible refine gd_ 1 rfl ?_); refine bxE 1 #[.bool a0_0, .slice A0_1 l0_1.length c0_1] 122 ?_; intro gb295 hg w4 hbox hb; have BK295 := Z0.mk hbox; have GW295 := fE HB hg; have GE295 := fE HB hg; replace HB := fB HB hb; clear hb hbox hg; obtain ⟨hcz5_0, hcz5_1, hfz5_0, hfz5_1⟩ := b2 BK295) | ((with_reducible refine gc_ 146 rfl ?_); refine gL 5 Tryz.func146 (bInumber_size.calls a0_0 _ _ l0_1 t296 _ ?side3 ?side1 ?side2 A2.out) ?_; (case side1 => exact cq (Kd.C_below HR0_1.out HB.out)); (case side2 => exact HC0_1.out); (case side3 => exact LaidW.below hL bqs); rintro _ w6 ⟨rfl, hb⟩; refine ⟨_, rfl, ?_⟩; replace BK295 := fk BK295 hb; replace HB := fB HB hb; clear hb))
  go_ret2
  exact finE
 obtain ⟨t297, A7, H⟩ := bnd H
 simp only [Option.some.injEq, Prod.mk.injEq] at H
 obtain ⟨rfl, rfl⟩ := H
 go_enter Tryz.func106, Tryz.ntmps106
 go_wp2_with (first | ((with_reducible refine gd_ 1 rfl ?_); refine bxE 1 #[.bool a0_0, .slice A0_1 l0_1.length c0_1] 122 ?_; intro gb295 hg w8 hbox hb; have BK295 := Z0.mk hbox; have GW295 := fE HB hg; have GE295 := fE HB hg; replace HB := fB HB hb; clear hb hbox hg; obtain ⟨hcz9_0, hcz9_1, hfz9_0, hfz9_1⟩ := b2 BK295) | ((with_reducible refine gc_ 146 rfl ?_); refine gL 5 Tryz.func146 (bInumber_size.calls a0_0 _ _ l0_1 t296 _ ?side3 ?side1 ?side2 A2.out) ?_; (case side1 => exact cq (Kd.C_below HR0_1.out HB.out)); (case side2 => exact HC0_1.out); (case side3 => exact LaidW.below hL bqs); rintro _ w10 ⟨rfl, hb⟩; refine ⟨_, rfl, ?_⟩; replace BK295 := fk BK295 hb; replace HB := fB HB hb; clear hb; obtain ⟨hcz11_0, hcz11_1, hfz11_0, hfz11_1⟩ := b2 BK295) | ((with_reducible refine gc_ 98 rfl ?_); refine gL 8 Tryz.func98 (bInumber_text.calls a0_0 _ _ l0_1 t297 _ ?side3 ?side1 ?side2 A7.out) ?_; (case side1 => exact cq (Kd.C_below HR0_1.out HB.out)); (case side2 => exact HC0_1.out); (case side3 => exact LaidW.below hL bqs); rintro _ w12 ⟨rfl, hb⟩; refine ⟨_, rfl, ?_⟩; replace BK295 := fk BK295 hb; replace HB := fB HB hb; clear hb))
 go_ret2
 exact finE
end Go.Proofs.YtihbebbabjklkaaGreatDoor.PA
