import Derived.Test.YtihbebbabjklkaaGreatDoorAG1
import Derived.Test.YtihbebbabjklkaaGreatDoorAD
import Derived.RangeFuncNested
import Derived.RangeFuncBound
import Derived.RangeFuncCalls
import Derived.RangeFuncLeaves
import Derived.Shelf.Abstract
import Derived.Shelf.RegionOpen
import Derived.WalkKit
import Derived.OwnWalkIn
import Derived.TacticsInMore
import Derived.LoopNIn
import Derived.LoopIn
import Derived.Test.YtihbebbabjklkaaGreatDoorProg
import Derived.Test.YtihbebbabjklkaaGreatDoorAW
import Derived.Lib.Hide
import Derived.Lib.AtoiErrMem
import Derived.Shelf.SlIter.Collect
import Derived.Shelf.SlIterI.Collect
import Derived.OrdersIn
import Derived.OrdersHeld
import Derived.Deep.RegionHeld3
set_option maxHeartbeats 8000000
set_option maxRecDepth 100000
set_option linter.unusedVariables false
namespace Go.Proofs.YtihbebbabjklkaaGreatDoor.PA
set_option linter.unusedVariables false
set_option linter.unusedSimpArgs false
open Go.RowKit Go.Proofs.WWords Go.Proofs.WLast Go.Proofs.WMore
theorem gr_t {A B C : World} {r : Option Nat} (h : A.grownBy B r) (k : B.grownBy C r) : A.grownBy C r :=
 ⟨k.os.trans h.os, k.tape.trans h.tape, k.output.trans h.output, Nat.le_trans h.size k.size, fun i hi hn => (k.block i (Nat.lt_of_lt_of_le hi h.size) hn).trans (h.block i hi hn)⟩
theorem gr_b {A B C : World} {r : Option Nat} (h : A.grownBy B r) (hb : Below B.heap.size B C) : A.grownBy C r := gr_t h (grown_of_below hb r)
theorem gq {w W0 W : World} {r : Option Nat} (h : Z0 (w.grownBy W0 r)) (s : Below W0.heap.size W0 W := by (with_reducible repeat (first | exact Below.refl _ _ | apply below_alloc | apply pw_below_drewN | apply below_drew1))) : Z0 (w.grownBy W r) := ⟨gr_b h.out s⟩
section
variable {pre post xs : List Int} {oW cF base n g cap : Nat} {w W0 W : World} {ok : Nat → Prop}
theorem wq {v : Value} (h : Z0 (WR pre post oW cF W0 base ok v xs)) (s : WR pre post oW cF W0 base ok v xs → WR pre post oW cF W base ok v xs := by intro h_; (with_reducible repeat (first | apply WR_alloc | apply WR_drewN | apply WR_drew)); exact h_) : Z0 (WR pre post oW cF W base ok v xs) := ⟨s h.out⟩
theorem winF (HO : Z0 (WR pre post oW cF w base ok (.slice (some ⟨g, oW, none⟩) n cap) xs)) (i : Int) (p : 0 ≤ i) (q : i < n) :
  w.cell? ⟨g, oW + i.toNat, none⟩ = some (.int .i64 (rd xs i)) ∧ w.frozen? ⟨g, oW + i.toNat, none⟩ = false ∧ (0 ≤ i) = True ∧ (i < n) = True :=
 ⟨(WR_celln 0 HO.out i p q).1, (WR_celln 0 HO.out i p q).2, eq_true p, eq_true q⟩
theorem stW {ops : Array Oper} {Q : Exit → Act → World → Prop} {rest : List Oper} {o : Oper} {a : Act} {t : TypeId} {p : Tmp} {vo : Operand} (i x : Int) (HO : Z0 (WR pre post oW cF W0 base ok (.slice (some ⟨g, oW, none⟩) n cap) xs)) (HG : Z0 (w.grownBy W0 (some g))) (hop : o.op = .store t (.tmp p) vo)
  (K : ∀ w', Z0 (WR pre post oW cF w' base ok (.slice (some ⟨g, oW, none⟩) n cap) (xs.set i.toNat x)) → Z0 (w.grownBy w' (some g)) → wpList Tryz.prog ops Q rest a w')
  (hi : (0 ≤ i) = True := by assumption) (hj : (i < n) = True := by assumption) (hO : Z0 (WR pre post oW cF W base ok (.slice (some ⟨g, oW, none⟩) n cap) xs) := by exact wq HO) (hG : Z0 (w.grownBy W (some g)) := by exact gq HG) (hN : o.dst = none := by rfl) (hg : o.guard = none := by rfl)
  (hr : (execOp a.eval o).run Tryz.prog W = .ok .skip (W.setCell ⟨g, oW + i.toNat, none⟩ (.int .i64 x)) := by first | (go_simp; done) | (go_simp; rfl)) : wpList Tryz.prog ops Q (o :: rest) a W := by
  refine store_event hg hop hN hr fun w' e => ?_
  subst e
  have h1 := of_eq_true hi
  have h2 := of_eq_true hj
  have h := WR_putg hO.out i (by have := (WR_reads' hO.out).1; omega) x
  exact K _ ⟨h.1⟩ ⟨gr_t hG.out h.2⟩
end
section
variable {pre post : List Int} {oW cF base g co c1 : Nat} {A1 : Option Addr}
theorem subC (k : Nat) (l0 l1 : List Int) (a2 : Int) (r1 : Bool) (r2 : List Int) (w : World) (HO : Z0 (WR pre post oW cF w base (fun _ => True) (.slice (some ⟨g, oW, none⟩) l0.length co) l0)) (HV : Z0 (∀ W', w.grownBy W' (some g) → Kd.C (Kd.int .i64) W' A1 l1.length l1)) (h : bIsubtract.f k l0 l1 a2 = some (r1, r2)) :
  Calls Tryz.prog 191 #[.slice (some ⟨g, oW, none⟩) l0.length co, .slice A1 l1.length c1, .int .i64 a2] w fun e w' => e = .returned (.bool r1) ∧ Z0 (WR pre post oW cF w' base (fun _ => True) (.slice (some ⟨g, oW, none⟩) l0.length co) r2) ∧ w.grownBy w' (some g) := by
 unfold bIsubtract.f at h
 have H' := Z0.mk h
 clear h
 have HG := Z0.mk (World.grownBy.refl w (some g))
 go_enter Tryz.func191, Tryz.ntmps191
 go_wp2
 go_loopg [7, 12] k (fun kq v7 v12 w' => ∃ (x : List Int) (x7 i : Int), v7 = .int .i64 x7 ∧ v12 = .int .i64 i ∧ Z0 (bIsubtract.l0 kq x l1 a2 x7 (l0.length : Int) i = some (r1, r2)) ∧ kq ≤ k ∧ Z0 (WR pre post oW cF w' base (fun _ => True) (.slice (some ⟨g, oW, none⟩) l0.length co) x) ∧ Z0 (w.grownBy w' (some g)))
 case atStart => exact ⟨l0, 0, 0, rfl, rfl, H', Nat.le_refl _, wq HO, gq HG⟩
 clear H' HO HG
 obtain ⟨x, x7, i, rfl, rfl, H, hk, HO, HG⟩ := hrel
 have hl := (WR_reads' HO.out).1
 cases gk with
 | zero => cases H.out
 | succ k1 =>
 replace H := H.out
 unfold bIsubtract.l0 at H
 simp only [← hl] at H
 clear hl
 rcases jd H with ⟨-, c1, H⟩ | ⟨-, c1, H⟩
 · repeat' (first | ((with_reducible have Z := gd H); obtain ⟨-, _, H⟩ := Z) | ((with_reducible have Z := jd H); rcases Z with ⟨-, _, H⟩ | ⟨-, _, H⟩))
   all_goals (
    obtain ⟨c3, c4, c5, c6⟩ := winF HO i od od
    (try (have Z := atI (HV.out _ HG.out) i; obtain ⟨a1, rfl, r4, r5, r6⟩ := Z))
    have H' := Z0.mk H
    clear H
    go_wp2_with ((with_reducible refine gate_store rfl ?_); refine stW i _ HO HG rfl ?_; intro w2 HO' HG')
    go_roundg k1
    case measure => omega
    case rel => exact ⟨_, _, _, rfl, rfl, H', by omega, HO', HG'⟩)
 · cases H
   go_wp2
   go_ret
   exact ⟨rfl, HO, HG.out⟩
instance : Ctr 191 (type_of% @subC) := ⟨@subC, _, Tryz.func191, by kernel_rfl, rfl⟩
theorem estC (k : Nat) (l0 l1 : List Int) (r1 : Int) (r2 : List Int) (w : World) (HO : Z0 (WR pre post oW cF w base (fun _ => True) (.slice (some ⟨g, oW, none⟩) l0.length co) l0)) (HV : Z0 (∀ W', w.grownBy W' (some g) → Kd.C (Kd.int .i64) W' A1 l1.length l1)) (h : bIestimate.f k l0 l1 = some (r1, r2)) :
  Calls Tryz.prog 145 #[.slice (some ⟨g, oW, none⟩) l0.length co, .slice A1 l1.length c1] w fun e w' => e = .returned (.int .i64 r1) ∧ Z0 (WR pre post oW cF w' base (fun _ => True) (.slice (some ⟨g, oW, none⟩) l0.length co) r2) ∧ w.grownBy w' (some g) := by
 unfold bIestimate.f at h
 have hj := i64_w ((l1.length : Int) - 1)
 generalize hj2 : wrap64 ((l1.length : Int) - 1) = j at h hj
 obtain ⟨-, c1, h⟩ := gd h
 obtain ⟨-, c2, h⟩ := gd h
 obtain ⟨-, c3, h⟩ := gd h
 obtain ⟨-, c4, h⟩ := gd h
 obtain ⟨-, c5, h⟩ := gd h
 obtain ⟨c8, c6, c7, h⟩ := fQ h
 generalize hT : wrap64 (Int.tdiv (wrap64 (wrap64 (rd l0 (l1.length : Int) * 1000000000) + rd l0 j)) (rd l1 j)) = T at h
 have hq : min T 999999999 = mn T 999999999 := by unfold mn; rw [Int.min_def]; split <;> split <;> omega
 generalize mn T 999999999 = q at h hq
 have HG := Z0.mk (World.grownBy.refl w (some g))
 obtain ⟨d1, d2, d3, d4⟩ := winF HO (l1.length : Int) od od
 obtain ⟨d5, d6, d7, d8⟩ := winF HO j od od
 obtain ⟨a1, rfl, d9, e1, e2⟩ := atI (HV.out _ HG.out) j
 rw [Int.toNat_natCast] at d1 d2
 have H' := Z0.mk h
 clear h
 go_enter Tryz.func145, Tryz.ntmps145
 go_upto_block 0 with (fail)
 repeat (go_quiet (fail); go_upto_block 0 with (fail))
 go_cut [7] (fun v7 wc => ∃ (kq : Nat) (x7 : Int), v7 = .int .i64 x7 ∧ Z0 (bIestimate.j1 kq l0 l1 (l1.length : Int) x7 = some (r1, r2)) ∧ kq ≤ k ∧ Z0 (WR pre post oW cF wc base (fun _ => True) (.slice (some ⟨g, oW, none⟩) l0.length co) l0) ∧ Z0 (w.grownBy wc (some g)))
 case first =>
  go_wp2
  repeat (go_quiet (fail); try go_wp2)
  go_loopg [7, 8] k (fun kq v7 v8 w' => ∃ x7 x8 : Int, v7 = .int .i64 x7 ∧ v8 = .int .i64 x8 ∧ Z0 (bIestimate.l0 kq l0 l1 (l1.length : Int) x7 x8 = some (r1, r2)) ∧ kq ≤ k ∧ Z0 (WR pre post oW cF w' base (fun _ => True) (.slice (some ⟨g, oW, none⟩) l0.length co) l0) ∧ Z0 (w.grownBy w' (some g)))
  case atStart => exact ⟨_, _, by first | rfl | (simp only [hT, hq]; done), by first | rfl | (simp only [hT, hq]; done), H', Nat.le_refl _, wq HO, gq HG⟩
  clear H' HO HG d1 d2 d5 d6 d9
  obtain ⟨x7, x8, rfl, rfl, H, hk, HO, HG⟩ := hrel
  cases gk with
  | zero => cases H.out
  | succ k1 =>
  replace H := H.out
  unfold bIestimate.l0 at H
  obtain ⟨d5, d6, d7, d8⟩ := winF HO j od od
  obtain ⟨_, e, d9, e1, e2⟩ := atI (HV.out _ HG.out) j
  cases e
  rcases jd H with ⟨-, f1, H⟩ | ⟨-, f1, H⟩
  · have hm := i64_w ((l1.length : Int) - 2)
    generalize hm2 : wrap64 ((l1.length : Int) - 2) = m at H hm
    obtain ⟨-, f2, H⟩ := gd H
    obtain ⟨-, f3, H⟩ := gd H
    obtain ⟨-, f4, H⟩ := gd H
    obtain ⟨d1, d2, d3, d4⟩ := winF HO m od od
    obtain ⟨_, e, d10, e3, e4⟩ := atI (HV.out _ HG.out) m
    cases e
    rw [hj2] at H
    rcases jg H with ⟨-, f5, H⟩ | ⟨-, f5, H⟩
    · obtain ⟨-, f6, H⟩ := gd H
      obtain ⟨-, f7, H⟩ := gd H
      have H' := Z0.mk H
      clear H
      go_wp2
      repeat (go_quiet (fail); try go_wp2)
      go_roundg k1
      case measure => omega
      case rel => exact ⟨_, _, rfl, rfl, H', by omega, wq HO, gq HG⟩
    · have H' := Z0.mk H
      clear H
      go_wp2
      repeat (go_quiet (fail); try go_wp2)
      go_meet
      case rel => exact ⟨_, x7, rfl, H', by omega, wq HO, gq HG⟩
  · have H' := Z0.mk H
    clear H
    go_wp2
    repeat (go_quiet (fail); try go_wp2)
    go_meet
    case rel => exact ⟨_, x7, rfl, H', by omega, wq HO, gq HG⟩
 case rest =>
  clear H' HO HG d1 d2 d5 d6 d9
  obtain ⟨kq, x7, rfl, H, hk, HO, HG⟩ := hcut
  cases kq with
  | zero => cases H.out
  | succ k1 =>
  replace H := H.out
  unfold bIestimate.j1 at H
  obtain ⟨⟨b, l2⟩, A2, H⟩ := bnd H
  have HV2 := Z0.mk (fun W' h' => HV.out W' (gr_t HG.out h') : ∀ W', wc.grownBy W' (some g) → Kd.C (Kd.int .i64) W' (some a1) l1.length l1)
  dsimp only at H
  cases b
  · rw [if_neg (by decide)] at H
    have H' := Z0.mk H
    clear H
    go_wp2_with (go_at_call 191; refine (subC k1 l0 l1 x7 false l2 _ HO HV2 A2.out).mono ?_; rintro _ w2 ⟨rfl, HO', hg⟩; have HG' := Z0.mk (gr_t HG.out hg))
    go_loopg [9, 79] k1 (fun kq v9 v79 w' => ∃ (x : List Int) (x9 i : Int), v9 = .int .i64 x9 ∧ v79 = .int .i64 i ∧ Z0 (bIestimate.l1 kq x l1 (l1.length : Int) (wrap64 (x7 - 1)) x9 (l0.length : Int) i = some (r1, r2)) ∧ kq ≤ k1 ∧ Z0 (WR pre post oW cF w' base (fun _ => True) (.slice (some ⟨g, oW, none⟩) l0.length co) x) ∧ Z0 (w.grownBy w' (some g)))
    case atStart => exact ⟨l2, 0, 0, rfl, rfl, H', Nat.le_refl _, wq HO', gq HG'⟩
    clear H' HO HG HO' HG' HV2
    obtain ⟨x, x9, i, rfl, rfl, H, hk1, HO, HG⟩ := hrel
    have hl := (WR_reads' HO.out).1
    cases gk with
    | zero => cases H.out
    | succ k2 =>
    replace H := H.out
    unfold bIestimate.l1 at H
    simp only [← hl] at H
    clear hl
    rcases jd H with ⟨-, f1, H⟩ | ⟨-, f1, H⟩
    · repeat' (first | ((with_reducible have Z := gd H); obtain ⟨-, _, H⟩ := Z) | ((with_reducible have Z := jd H); rcases Z with ⟨-, _, H⟩ | ⟨-, _, H⟩))
      all_goals (
       obtain ⟨c3, c4, c5, c6⟩ := winF HO i od od
       (try (have Z := atI (HV.out _ HG.out) i; obtain ⟨_, e, r4, r5, r6⟩ := Z; cases e))
       have H' := Z0.mk H
       clear H
       go_wp2_with ((with_reducible refine gate_store rfl ?_); refine stW i _ HO HG rfl ?_; intro w3 HO' HG')
       go_roundg k2
       case measure => omega
       case rel => exact ⟨_, _, _, rfl, rfl, H', by omega, HO', HG'⟩)
    · cases H
      go_wp2
      repeat (go_quiet (fail); try go_wp2)
      go_ret
      exact ⟨rfl, wq HO, (gq HG).out⟩
  · rw [if_pos rfl] at H
    cases H
    go_wp2_with (go_at_call 191; refine (subC k1 l0 l1 r1 true r2 _ HO HV2 A2.out).mono ?_; rintro _ w2 ⟨rfl, HO', hg⟩; have HG' := Z0.mk (gr_t HG.out hg))
    go_ret
    exact ⟨rfl, wq HO', (gq HG').out⟩
end
theorem estW {base g cf c1 : Nat} {A1 : Option Addr} (k : Nat) (l0 l1 : List Int) (j : Int) (m : Nat) (hm : m = l1.length + 1) (r1 : Int) (r2 : List Int) (w : World) (HO : Z0 (Kd.R (Kd.int .i64) 3 w base (fun _ => True) (.slice (some ⟨g, 0, none⟩) l0.length cf) l0)) (HV : Z0 (∀ W', w.grownBy W' (some g) → Kd.C (Kd.int .i64) W' A1 l1.length l1)) (h : bIestimateW.f k l0 j l1 = some (r1, r2)) :
  Calls Tryz.prog 145 #[.slice (some ⟨g, j.toNat, none⟩) m (cf - j.toNat), .slice A1 l1.length c1] w fun e w' => e = .returned (.int .i64 r1) ∧ Z0 (Kd.R (Kd.int .i64) 3 w' base (fun _ => True) (.slice (some ⟨g, 0, none⟩) l0.length cf) r2) ∧ w.grownBy w' (some g) := by
 subst hm
 unfold bIestimateW.f at h
 obtain ⟨hc, h⟩ := gn h
 obtain ⟨⟨q, r⟩, hq, h⟩ := bnd h
 cases h
 have hm : ((l0.drop j.toNat).take (l1.length + 1)).length = l1.length + 1 := by rw [List.length_take, List.length_drop]; omega
 have hsp : l0.take j.toNat ++ (l0.drop j.toNat).take (l1.length + 1) ++ l0.drop (j.toNat + (l1.length + 1)) = l0 := by
  rw [List.append_assoc, ← List.drop_drop, List.take_append_drop, List.take_append_drop]
 have hcap := (Kd.R_reads' HO.out).2.1
 have hW : WR (l0.take j.toNat) (l0.drop (j.toNat + (l1.length + 1))) j.toNat cf w base (fun _ => True) (.slice (some ⟨g, j.toNat, none⟩) ((l0.drop j.toNat).take (l1.length + 1)).length (cf - j.toNat)) ((l0.drop j.toNat).take (l1.length + 1)) := by
  refine ⟨fun _ _ => trivial, by rw [List.length_take]; omega, g, cf - j.toNat, rfl, by omega, ?_⟩
  rw [hsp]
  exact Kd.R_mono (Kd.R_tight rfl HO.out) (fun k hk => by simpa [Value.ownBlock] using hk)
 have hC := estC (c1 := c1) k _ l1 q r w ⟨hW⟩ HV hq.out
 rw [hm] at hC
 refine hC.mono ?_
 rintro e w' ⟨rfl, hw, hg⟩
 obtain ⟨hn, _, _, _, hR⟩ := WR_full hw.out
 have hlen : (l0.take j.toNat ++ r ++ l0.drop (j.toNat + (l1.length + 1))).length = l0.length := by simp; omega
 rw [hlen] at hR
 exact ⟨rfl, ⟨Kd.R_mono hR (fun _ _ => trivial)⟩, hg⟩
end Go.Proofs.YtihbebbabjklkaaGreatDoor.PA
namespace Go.Proofs.YtihbebbabjklkaaGreatDoor
set_option linter.unusedVariables false
open Go.RowKit Go.Shelf Go.Proofs.WWords
attribute [local go_sem] Oper.semAt_some
theorem bk_succ (zs : List Int) (k : Nat) (h : k < zs.length) : bk zs (k + 1) = bk zs k ++ [bkx zs k h] := by simp [bk, h]
theorem bk_length (zs : List Int) (k : Nat) (h : k ≤ zs.length) : (bk zs k).length = k := by
 induction k with
 | zero => rfl
 | succ k ih => rw [bk_succ zs k (by omega)]; simp [ih (by omega)]
theorem bk_mem {zs : List Int} {k : Nat} (h : k ≤ zs.length) (x : BkT zs) : x ∈ bk zs k ↔ (zs.length : Int) - k ≤ x.1.1 := by
 induction k with
 | zero => simp [bk]; have := x.2; omega
 | succ k ih =>
  rw [bk_succ zs k (by omega), List.mem_append, ih (by omega), List.mem_singleton]
  constructor
  ·rintro (h | h)
   ·omega
   rw [h]; simp only [bkx]; omega
  intro h
  by_cases e : (zs.length : Int) - k ≤ x.1.1
  ·exact .inl e
  right
  have h2 := x.2
  have h3 : x.1.1 = (zs.length : Int) - 1 - k := by omega
  apply Subtype.ext
  apply Prod.ext
  ·exact h3
  rw [h2.2.2, h3]; rfl
def enc2 {zs : List Int} (x : BkT zs) : Array Value := #[.int .i64 x.1.1, .int .i64 x.1.2]
def KB (n₀ Bs : Nat) (W W' : World) : Prop := Below n₀ W W' ∧ (Bs < W.heap.size → W'.heap[Bs]? = W.heap[Bs]?)
theorem KB.refl (n₀ Bs : Nat) (W : World) : KB n₀ Bs W W := ⟨Below.refl _ _, fun _ => rfl⟩
theorem KB.trans {n₀ Bs : Nat} {A B C : World} (h : KB n₀ Bs A B) (k : KB n₀ Bs B C) : KB n₀ Bs A C :=
 ⟨h.1.trans k.1, fun hb => (k.2 (Nat.lt_of_lt_of_le hb h.1.size)).trans (h.2 hb)⟩
theorem KB.setCell {n₀ Bs : Nat} {A W : World} (h : KB n₀ Bs A W) {p : Addr} (h0 : n₀ ≤ p.block) (h1 : p.block ≠ Bs) (v : Value) : KB n₀ Bs A (W.setCell p v) :=
 ⟨h.1.setCell h0 v, fun hb => (Below.heap_setCell W p v Bs (Ne.symm h1)).trans (h.2 hb)⟩
theorem KB.alloc {n₀ Bs : Nat} {A W : World} (h : KB n₀ Bs A W) (hn : n₀ ≤ W.heap.size) (o : Obj) : KB n₀ Bs A (W.alloc o) :=
 ⟨h.1.alloc hn o, fun hb => (Below.heap_alloc W o Bs (Nat.lt_of_lt_of_le hb h.1.size)).trans (h.2 hb)⟩
theorem KB.drew {n₀ Bs : Nat} {A W : World} (h : KB n₀ Bs A W) : KB n₀ Bs A W.drew := ⟨h.1.drew, h.2⟩
theorem KB.below {n₀ Bs : Nat} {A W W' : World} (h : KB n₀ Bs A W) (hb : Below W.heap.size W W') (hn : n₀ ≤ W.heap.size) : KB n₀ Bs A W' :=
 ⟨h.1.trans (hb.mono hn), fun h1 => (hb.block Bs (Nat.lt_of_lt_of_le h1 h.1.size)).trans (h.2 h1)⟩
theorem KB.grown {n₀ Bs : Nat} {A W W' : World} {row : Option Nat} (h : KB n₀ Bs A W) (hg : W.grownBy W' row) (hn : n₀ ≤ W.heap.size) (hr : ∀ k, row = some k → n₀ ≤ k ∧ k ≠ Bs) : KB n₀ Bs A W' :=
 ⟨h.1.grown hg hn (fun k e => (hr k e).1), fun h1 => (hg.block Bs (Nat.lt_of_lt_of_le h1 h.1.size) (fun e => (hr Bs e.symm).2 rfl)).trans (h.2 h1)⟩
theorem kb_t {n₀ Bs : Nat} {A B C : World} (h : KB n₀ Bs A B) (k : KB n₀ Bs B C) : KB n₀ Bs A C := h.trans k
theorem kb_b {n₀ Bs : Nat} {w : World} (hn : n₀ ≤ w.heap.size) (hs : Bs < w.heap.size) (W : World) (l : Nat) (o o' : Obj) (hl : w.heap.size ≤ l) (h : W.heap[l]? = some o) (h1 : o.isCells = false) (h2 : o.isWalk = false) : KB n₀ Bs W (W.putObj l o') :=
 ⟨belowK_b hn W l o o' hl h h1 h2, fun _ => World.putObj_heap_other (by omega)⟩
theorem back1_in (F : Fence) (n : Nat) (h7 : F.fn 182) (hro : F.round = none) (hn : 1 ≤ n) (l Bs n₀ : Nat) (A : Option Addr) (cap : Nat) (zs : List Int) (hm : zs.length ≤ 9223372036854775807) (J Jx : List (BkT zs) → World → Prop)
  (hY : ∀ pre x W, J pre W → pre.length < zs.length → YieldAt F (n - 1) Tryz.prog l (enc2 x) W fun e W' =>
   (e = .returned (.bool true) ∧ J (pre ++ [x]) W' ∧ KB n₀ Bs W W') ∨ (e = .returned (.bool false) ∧ Jx (pre ++ [x]) W'))
  (W : World) (hBs : Boxed W Bs 35 (.slice A zs.length cap)) (hc : ∀ W', Below n₀ W W' → Kd.C (Kd.int .i64) W' A zs.length zs) (h0 : J [] W) :
  CallsIn F n Tryz.prog 182 #[.func (.yield l) #[] #[], .pointer (some ⟨Bs, 0, none⟩)] W fun e W' => (∃ v, e = .returned v) ∧
   ((∃ ys, ys = bk zs zs.length ∧ J ys W') ∨ (∃ pre, (∃ k, k < zs.length ∧ pre = bk zs (k + 1)) ∧ Jx pre W')) := by
 have hBc := hBs.cell
 refine callsIn_of_wp Tryz.func182 rfl h7 ?_ hro
 simp only [Tryz.ntmps182, List.size_toArray, List.length_cons, List.length_nil, Nat.reduceAdd, Nat.reduceSub, Array.replicate_succ, Array.replicate_zero, List.push_toArray, List.append_toArray, List.nil_append, List.cons_append]
 gi_wp2
 gi_loopw [3] (fun i wr => ∃ k : Nat, k ≤ zs.length ∧ i = .int .i64 ((zs.length : Int) - 1 - k) ∧ J (bk zs k) wr ∧ KB n₀ Bs W wr)
  (fun i _ => ((Go.RowKit.intOf i) + 1).toNat)
 case atStart => exact ⟨0, Nat.zero_le _, by simp, h0, KB.refl _ _ _⟩
 case round =>
  obtain ⟨k, hk, rfl, hJs, hnx⟩ := hrel
  have hBs' : wr.cell? ⟨Bs, 0, none⟩ = some (.slice A zs.length cap) := (show Boxed wr Bs 35 _ from (hnx.2 hBs.lt).trans hBs).cell
  by_cases hlt : k < zs.length
  ·obtain ⟨ad, rfl, hcx⟩ := Kd.at_int (hc wr hnx.1) ((zs.length : Int) - 1 - k) (by omega) (by omega)
   obtain ⟨fn, tmps, assign, body, hy, hR⟩ := hY _ (bkx zs k hlt) wr hJs (by rw [bk_length _ _ hk]; exact hlt)
   dsimp only [enc2, bkx] at hy
   have hcy : wr.cell? (ad.add (zs.length - 1 - k)) = some (.int .i64 (rd zs ((zs.length : Int) - 1 - k))) := by
    have : ((zs.length : Int) - 1 - k).toNat = zs.length - 1 - k := by omega
    rw [← this]; exact hcx
   clear hcx
   gi_wp2
   refine hR.mono ?_
   rintro e W3 (⟨rfl, hJ3, hk3⟩ | ⟨rfl, hJx3⟩)
   ·gi_wp2
    go_roundw
    case rel => exact ⟨k + 1, by omega, by go_num, by rw [bk_succ _ _ hlt]; exact hJ3, hnx.trans hk3⟩
    case measure => simp [Go.RowKit.intOf]; omega
   gi_wp2
   refine bodyPost_ret (results_none rfl _ _ _) rfl ?_
   exact ⟨⟨_, rfl⟩, .inr ⟨_, ⟨k, hlt, rfl⟩, by rw [bk_succ _ _ hlt]; exact hJx3⟩⟩
  obtain rfl : k = zs.length := by omega
  gi_wp2
  go_end0
  exact ⟨⟨_, rfl⟩, .inl ⟨_, rfl, hJs⟩⟩
theorem back_stops (F : Fence) (n : Nat) (h7 : F.fn 182) (hro : F.round = none) (hn : 1 ≤ n) (Bs n₀ : Nat) (A : Option Addr) (cap : Nat) (zs : List Int) (hm : zs.length ≤ 9223372036854775807) (w : World)
  (hBs : Boxed w Bs 35 (.slice A zs.length cap)) (hn₀ : n₀ ≤ w.heap.size) (hc : ∀ W', Below n₀ w W' → Kd.C (Kd.int .i64) W' A zs.length zs) :
  SeqStopsK F n Tryz.prog 182 #[.pointer (some ⟨Bs, 0, none⟩)] enc2 (KB n₀ Bs) (fun ys => ys = bk zs zs.length) (fun pre => ∃ k, k < zs.length ∧ pre = bk zs (k + 1)) zs.length w := fun l J Jx W hW _ _ hY h0 =>
 back1_in F n h7 hro hn l Bs n₀ A cap zs hm J Jx hY W ((hW.block Bs hBs.lt).trans hBs) (fun W' hb => hc W' ((hW.mono hn₀).trans hb)) h0
theorem back_in (F : Fence) (n : Nat) (h5 : F.fn 134) (hro : F.round = none) (a : Option Addr) (len cap : Nat) (w : World) :
  CallsIn F n Tryz.prog 134 #[.slice a len cap] w fun e w' => e = .returned (.func (.func 182) #[] #[.pointer (some ⟨w.heap.size, 0, none⟩)]) ∧ w' = w.alloc (.cells #[.slice a len cap] 35) := by
 refine callsIn_of_wp Tryz.func134 rfl h5 ?_ hro
 simp only [Tryz.ntmps134, List.size_toArray, List.length_cons, List.length_nil, Nat.reduceAdd, Nat.reduceSub, Array.replicate_succ, Array.replicate_zero, List.push_toArray, List.append_toArray, List.nil_append, List.cons_append]
 gi_wp2
 go_ret
 exact ⟨rfl, rfl⟩
theorem rd_range {B : Int} (hB : 0 < B) {l : List Int} (h : Sv.Digs B l) (i : Int) : 0 ≤ rd l i ∧ rd l i < B := by
 unfold rd
 rw [List.getD_eq_getElem?_getD]
 cases hx : l[i.toNat]? with
 | none => simp; exact hB
 | some x => exact h x (List.mem_of_getElem? hx)
theorem order_in (F : Fence) (n : Nat) (h1 : F.fn 142) (h2 : F.fn 134) (h3 : F.fn 182) (hro : F.round = none) (hn : 3 ≤ n) (A0 : Option Addr) (c0 : Nat) (l0 : List Int) (A1 : Option Addr) (c1 : Nat) (l1 : List Int) (w : World)
  (hr0 : Kd.C (Kd.int .i64) w A0 l0.length l0) (hr1 : Kd.C (Kd.int .i64) w A1 l1.length l1) (he : l0.length = l1.length)
  (hd : ∀ i : Int, -4611686018427387904 ≤ rd l0 i - rd l1 i ∧ rd l0 i - rd l1 i ≤ 4611686018427387904) :
  CallsIn F n Tryz.prog 142 #[.slice A0 l0.length c0, .slice A1 l1.length c1] w fun e w' => e = .returned (.int .i64 (ordAt l0 l1 l0.length)) ∧ Below w.heap.size w w' := by
 have hm0 := Kd.C_max hr0
 have hm1 := Kd.C_max hr1
 have h1' : 1 ≤ n := by omega
 have hen : ((l0.length : Int) != (l1.length : Int)) = false := by rw [he]; simp
 have hE := Lib.hid he
 clear he
 have HD := Lib.hid hd
 clear hd
 refine callsIn_of_wp_marks Tryz.func142 rfl h1 ?_ hro
 simp only [Tryz.ntmps142, List.size_toArray, List.length_cons, List.length_nil, Nat.reduceAdd, Nat.reduceSub, Array.replicate_succ, Array.replicate_zero, List.push_toArray, List.append_toArray, List.nil_append, List.cons_append]
 gi_wp2_with (gi_at_call 134; refine (back_in F (n - 1) h2 hro _ _ _ _).mono ?_; rintro e w' ⟨rfl, rfl⟩)
 obtain ⟨W0, hW0⟩ : ∃ W0, ((w.alloc (.cells #[.slice A1 l1.length c1] 35)).alloc (.cells #[.int .i64 0] 3)).alloc (.cells #[.slice A0 l0.length c0] 35) = W0 := ⟨_, rfl⟩
 have hB0 : Below w.heap.size w W0 := by rw [← hW0]; exact (((Below.refl _ w).alloc (Nat.le_refl _) _).alloc (by simp) _).alloc (by simp; omega) _
 have hs0 : W0.heap.size = w.heap.size + 3 := by rw [← hW0]; simp
 have hby : Boxed W0 w.heap.size 35 (.slice A1 l1.length c1) := by rw [← hW0]; exact ((Boxed.new _ _ _).alloc _).alloc _
 have hbr : Boxed W0 (w.heap.size + 1) 3 (.int .i64 0) := by
  rw [← hW0]; have := (Boxed.new (w.alloc (.cells #[.slice A1 l1.length c1] 35)) 3 (.int .i64 0)).alloc (.cells #[.slice A0 l0.length c0] 35); rwa [World.size_alloc] at this
 have hbs : Boxed W0 (w.heap.size + 1 + 1) 35 (.slice A0 l0.length c0) := by
  rw [← hW0]; have := Boxed.new ((w.alloc (.cells #[.slice A1 l1.length c1] 35)).alloc (.cells #[.int .i64 0] 3)) 35 (.slice A0 l0.length c0); simpa using this
 rw [hW0]
 refine wpIn_rangeFunc_ownF hro h1' (gf := 182) (lb := #[.pointer (some ⟨w.heap.size + 1 + 1, 0, none⟩)]) rfl h3 (enters_of Tryz.func182 (by kernel_rfl) rfl)
  (back_stops F (n - 1) h3 hro (by omega) (w.heap.size + 1 + 1) w.heap.size A0 c0 l0 hm0 W0 hbs (by omega) (fun W' hb => Kd.C_below hr0 (hB0.trans hb))) kb_t (kb_b (by omega) (by omega)) (Below.refl _ _) (fun _ => rfl)
  (fun pre W => ((∀ p ∈ pre, p.1.2 = rd l1 p.1.1) ∧ Boxed W w.heap.size 35 (.slice A1 l1.length c1) ∧ Boxed W (w.heap.size + 1) 3 (.int .i64 0)) ∧ Below w.heap.size w W)
  (fun c pre W => (c = .ret ∧ ∃ pre' x, pre = pre' ++ [x] ∧ (∀ p ∈ pre', p.1.2 = rd l1 p.1.1) ∧ x.1.2 ≠ rd l1 x.1.1 ∧ W.cell? ⟨w.heap.size + 1, 0, none⟩ = some (.int .i64 (x.1.2 - rd l1 x.1.1))) ∧ Below w.heap.size w W)
  (OwnFrom.and (Own.from (fun s A B row hs hg hr => ⟨hs.1, boxed_own _ _ (fun _ => _) s A B row hs.2.1 hg hr, boxed_own _ _ (fun _ => _) s A B row hs.2.2 hg hr⟩) _) (ownFrom_below (Nat.le_refl _) (by omega)))
  (fun c => OwnFrom.and (Own.from (fun s A B row hs hg hr => by obtain ⟨h, p, x, e1, e2, e3, e4⟩ := hs; exact ⟨h, p, x, e1, e2, e3, cell_kept e4 hg hr⟩) _) (ownFrom_below (Nat.le_refl _) (by omega)))
  ⟨⟨by simp, hby, hbr⟩, hB0⟩
  ?act1 ?assign ?body ?done ?stop
 case assign =>
  intro l x W K hK
  simp only [enc2]
  gi_wp2
  exact hK
 case body =>
  rintro l pre x W ⟨⟨hp, hy, hr⟩, hB⟩ _
  have hl1 := hE.out
  have hx0 := x.2.1
  have hx1 := x.2.2.1
  have hxd := HD.out x.1.1
  rw [← x.2.2.2] at hxd
  obtain ⟨⟨i, v⟩, hx⟩ := x
  simp only at hx0 hx1 hxd
  obtain ⟨ad, rfl, hcx⟩ := Kd.at_int (Kd.C_below hr1 hB) i hx0 (by omega)
  have hyc := hy.cell
  have hrc := hr.cell
  have hrf := hr.frozen
  have hi1 : i < (l1.length : Int) := by omega
  clear hl1
  obtain ⟨q, hq⟩ : ∃ q, rd l1 i = q := ⟨_, rfl⟩
  rw [hq] at hcx hxd
  have HQ := Lib.hid hq
  clear hq
  have hxd1 := hxd.1
  have hxd2 := hxd.2
  gi_wp2
  ·rename_i hne
   have hne' : v ≠ q := by simpa using hne
   refine ⟨KeepsOthers.setCell _ _ _, ⟨rfl, pre, _, rfl, hp, by rw [HQ.out]; exact hne', ?_⟩, hB.setCell (p := ⟨w.heap.size + 1, 0, none⟩) (by simp) _⟩
   rw [HQ.out]
   exact World.cell?_setCell_same' _ _ _ (by rw [hrc]; rfl)
  rename_i hne
  have hne' : v = q := by simpa using hne
  refine ⟨KeepsOthers.refl _, KB.refl _ _ _, ⟨fun p hm => ?_, hy, hr⟩, hB⟩
  rcases List.mem_append.1 hm with hm | hm
  ·exact hp p hm
  rw [List.mem_singleton] at hm
  rw [hm, HQ.out]
  exact hne'
 case done =>
  rintro D ys W hD rfl ⟨⟨hp, hy, hr⟩, hB⟩ hK
  have hrc := hr.cell
  have hrf := hr.frozen
  have hfin : ordAt l0 l1 l0.length = 0 := by
   have key : ∀ k : Nat, k ≤ l0.length → ordAt l0 l1 k = 0 := by
    intro k
    induction k with
    | zero => intro _; rfl
    | succ k ih =>
     intro hk
     have := hp (⟨((k : Int), rd l0 k), by simp only; omega, by simp only; omega, rfl⟩) ((bk_mem (Nat.le_refl _) _).2 (by simp only; omega))
     simp only at this
     rw [ordAt, if_pos this, ih (by omega)]
   exact key _ (Nat.le_refl _)
  have HF := Lib.hid hfin
  clear hfin
  gi_wp2
  have hK' := (KeepsOthers.setCell W ⟨w.heap.size + 1, 0, none⟩ (.int .i64 0)).same D _ hK rfl
  refine ⟨by simp, .inl ⟨_, _, rfl, run_takeDeferred hK', ?_⟩⟩
  have hc5 := cell_kept (World.cell?_setCell_same' W ⟨w.heap.size + 1, 0, none⟩ (.int .i64 0) (by rw [hrc]; rfl)) (grownBy_putObj' _ D (.deferred none)) (fun r e => by cases e; exact ⟨_, hK', rfl⟩)
  refine ⟨.int .i64 0, ?_, by rw [HF.out], (hB.setCell (p := ⟨w.heap.size + 1, 0, none⟩) (by simp) _).trans (belowK_b (w := w) (Nat.le_refl _) _ D _ _ (by omega) hK' rfl rfl)⟩
  simp [results, Tryz.f142, go_sem, hc5]
 case stop =>
  rintro D c pre W hD ⟨k, hk, rfl⟩ ⟨⟨rfl, pre', x, hpre, hp, hne, hrc⟩, hB⟩ hK
  rw [bk_succ _ _ hk] at hpre
  obtain ⟨rfl, rfl⟩ : bk l0 k = pre' ∧ bkx l0 k hk = x := by
   have h2 := List.append_inj' hpre rfl
   exact ⟨h2.1, by simpa using h2.2⟩
  have hfin : ordAt l0 l1 l0.length = (bkx l0 k hk).1.2 - rd l1 (bkx l0 k hk).1.1 := by
   have key : ∀ j : Nat, j ≤ k → ordAt l0 l1 l0.length = ordAt l0 l1 (l0.length - j) := by
    intro j
    induction j with
    | zero => intro _; rfl
    | succ j ih =>
     intro hj
     rw [ih (by omega)]
     have e : l0.length - j = (l0.length - (j + 1)) + 1 := by omega
     have := hp (⟨(((l0.length - (j + 1) : Nat) : Int), rd l0 ((l0.length - (j + 1) : Nat) : Int)), by simp only; omega, by simp only; omega, rfl⟩) ((bk_mem (by omega) _).2 (by simp only; omega))
     simp only at this
     rw [e, ordAt, if_pos this]
   have e : l0.length - k = (l0.length - (k + 1)) + 1 := by omega
   have e2 : (l0.length : Int) - 1 - k = ((l0.length - (k + 1) : Nat) : Int) := by omega
   simp only [bkx, e2] at hne ⊢
   rw [key k (Nat.le_refl _), e, ordAt, if_neg hne]
  rw [← hfin] at hrc
  clear hfin hne hp
  gi_wp2
  refine ⟨by simp, .inl ⟨_, _, rfl, run_takeDeferred hK, ?_⟩⟩
  have hc5 := cell_kept hrc (grownBy_putObj' _ D (.deferred none)) (fun r e => by cases e; exact ⟨_, hK, rfl⟩)
  refine ⟨.int .i64 (ordAt l0 l1 l0.length), ?_, rfl, hB.trans (belowK_b (w := w) (Nat.le_refl _) W D _ _ (by omega) hK rfl rfl)⟩
  simp [results, Tryz.f142, go_sem, hc5]
theorem digs_sub {x y : List Int} (hx : Sv.Digs Sv.LB x) (hy : Sv.Digs Sv.LB y) (i : Int) : -4611686018427387904 ≤ rd x i - rd y i ∧ rd x i - rd y i ≤ 4611686018427387904 := by
 have h1 := rd_range (by decide) hx i
 have h2 := rd_range (by decide) hy i
 have : Sv.LB = 1000000000 := rfl
 omega
theorem bIorder.calls (A0 : Option Addr) (c0 : Nat) (l0 : List Int) (A1 : Option Addr) (c1 : Nat) (l1 : List Int) (r : Int) (w : World) (hr0 : Kd.C (Kd.int .i64) w A0 l0.length l0) (hc0 : l0.length ≤ c0) (hr1 : Kd.C (Kd.int .i64) w A1 l1.length l1) (hc1 : l1.length ≤ c1) (h : bIorder.f l0 l1 = some r) :
  Calls Tryz.prog 142 #[.slice A0 l0.length c0, .slice A1 l1.length c1] w fun e w' => e = .returned (.int .i64 r) ∧ Below w.heap.size w w' := by
 unfold bIorder.f at h
 by_cases hd : Sv.Digs Sv.LB l0 ∧ Sv.Digs Sv.LB l1 ∧ l0.length ≤ 4611686018427387904 ∧ l1.length ≤ 4611686018427387904
 ·rw [if_pos hd] at h
  obtain rfl := Option.some.inj h
  by_cases he : l0.length = l1.length
  ·rw [if_pos he]
   exact (callsIn_wide (n := 3)).1 (order_in Fence.wide 3 trivial trivial trivial rfl (by omega) A0 c0 l0 A1 c1 l1 w hr0 hr1 he (digs_sub hd.1 hd.2.1))
  rw [if_neg he]
  have hen : ((l0.length : Int) != (l1.length : Int)) = true := by rw [bne_iff_ne]; omega
  have h1 := hd.2.2.1
  have h2 := hd.2.2.2
  have hz := run_underlying (P := Tryz.prog) Tryz.underlying3
  clear hd h he
  go_enter Tryz.func142, Tryz.ntmps142
  go_wp2
  refine bodyPost_ret (v := .int .i64 ((l0.length : Int) - l1.length)) ?_ rfl ⟨rfl, ?_⟩
  ·simp [results, Tryz.f142, go_sem]
  exact ((Below.refl _ w).alloc (Nat.le_refl _) _).alloc (by simp) _
 rw [if_neg hd] at h
 cases h
theorem gk_length (ds : List Int) (k : Nat) : (gk ds k).length = k := by
 induction k with
 | zero => rfl
 | succ k ih => simp [gk, ih]
theorem AllD.digs {l : List UInt8} (h : AllD l) : Sv.Digs 10 (l.reverse.map Sv.chd) := by
 intro d hd
 obtain ⟨c, hc, rfl⟩ := List.mem_map.1 hd
 have := h c (by simpa using hc)
 unfold Sv.chd
 omega
theorem valN_cons (c : UInt8) (t : List UInt8) : Sv.valN (c :: t) = Sv.valN t + 10 ^ t.length * Sv.chd c := by
 unfold Sv.valN
 rw [List.reverse_cons, List.map_append, Sv.vl_append]
 simp [Sv.vl]
theorem valN_nonneg {l : List UInt8} (h : AllD l) : 0 ≤ Sv.valN l := Sv.vl_nonneg (by decide) h.digs
theorem decFrom_valN : ∀ (l : List UInt8) (acc : Nat), AllD l → Lib.decFrom acc l = some (acc * 10 ^ l.length + (Sv.valN l).toNat) := by
 intro l
 induction l with
 | nil => intro acc _; simp [Lib.decFrom, Sv.valN, Sv.vl]
 | cons c t ih =>
  intro acc h
  have hc := h c (by simp)
  have ht : AllD t := fun x hx => h x (by simp [hx])
  have hd : Lib.digitVal c = some (c.toNat - 48) := by
   unfold Lib.digitVal
   simp [hc.1, hc.2]
  rw [Lib.decFrom, hd]
  simp only
  rw [ih _ ht, valN_cons]
  have h0 := valN_nonneg ht
  have e : Sv.chd c = ((c.toNat - 48 : Nat) : Int) := by unfold Sv.chd; omega
  obtain ⟨v, hv⟩ : ∃ v : Nat, Sv.valN t = v := ⟨(Sv.valN t).toNat, by omega⟩
  rw [e, hv]
  congr 1
  have e2 : ((v : Int) + 10 ^ t.length * ((c.toNat - 48 : Nat) : Int)).toNat = v + 10 ^ t.length * (c.toNat - 48) := by
   have : ((v : Int) + 10 ^ t.length * ((c.toNat - 48 : Nat) : Int)) = ((v + 10 ^ t.length * (c.toNat - 48) : Nat) : Int) := by push_cast; rfl
   rw [this, Int.toNat_natCast]
  rw [e2, List.length_cons, Nat.pow_succ, Int.toNat_natCast]
  generalize 10 ^ t.length = p
  generalize c.toNat - 48 = q
  grind
theorem atoi_valN {l : List UInt8} (h : AllD l) (hne : l ≠ []) : Lib.atoi l = some (Sv.valN l) := by
 cases l with
 | nil => exact absurd rfl hne
 | cons c t =>
  have hc := h c (by simp)
  have h45 : (c == 45) = false := by
   rw [beq_eq_false_iff_ne]; rintro rfl; have := hc.1; simp at this
  have h43 : (c == 43) = false := by
   rw [beq_eq_false_iff_ne]; rintro rfl; have := hc.1; simp at this
  have h0 := valN_nonneg h
  rw [Lib.atoi, h45, h43]
  simp only [Bool.false_eq_true, if_false]
  rw [Lib.decNat]
  simp only [List.isEmpty_cons, Bool.false_eq_true, if_false]
  rw [decFrom_valN _ _ h]
  simp
  omega
theorem sub_valN (l : List UInt8) (k : Nat) (h : 9 * k < l.length) : Sv.valN ((l.take (l.length - 9 * k)).drop (l.length - 9 * k - 9)) = Sv.vl 10 (((l.reverse.map Sv.chd).drop (9 * k)).take 9) := by
 unfold Sv.valN
 rw [← List.map_drop, ← List.map_take]
 congr 2
 rw [List.drop_reverse, List.take_reverse, List.length_take]
 congr 1
 congr 1
 omega
theorem sub_alld {l : List UInt8} (h : AllD l) (i j : Nat) : AllD ((l.take j).drop i) := fun c hc => h c (List.mem_of_mem_take (List.mem_of_mem_drop hc))
theorem chk1_in (n : Nat) (hn : 1 ≤ n) (l Bs n₀ : Nat) (a0 : ByteArray) (m : Nat) (hm1 : a0.size ≤ 9 * m) (hm2 : 9 * m < a0.size + 9) (hdig : AllD a0.data.toList) (hm : a0.size ≤ 4611686018427387904) (J Jx : List Int → World → Prop) (W : World) (hn₀ : n₀ ≤ W.heap.size) (hJ : AbidesFrom W.heap.size J)
    (hY : ∀ pre x W, J pre W → pre.length < m → YieldAt Fence.wide (n - 1) Tryz.prog l #[.int .i64 x] W fun e W' =>
      (e = .returned (.bool true) ∧ J (pre ++ [x]) W' ∧ KB n₀ Bs W W') ∨ (e = .returned (.bool false) ∧ Jx (pre ++ [x]) W'))
    (hBs : Boxed W Bs 9 (.string a0)) (h0 : J [] W) :
    CallsIn Fence.wide n Tryz.prog 203 #[.func (.yield l) #[] #[], .pointer (some ⟨Bs, 0, none⟩)] W fun e W' => (∃ v, e = .returned v) ∧
      ((∃ ys, ys = gk (dl a0) m ∧ J ys W') ∨ (∃ pre, (∃ k, k < m ∧ pre = gk (dl a0) (k + 1)) ∧ Jx pre W')) := by
 have hBc := hBs.cell
 have hf194 : Fence.wide.fn 204 := trivial
 refine callsIn_of_wp Tryz.func203 rfl trivial ?_ rfl
 simp only [Tryz.ntmps203, List.size_toArray, List.length_cons, List.length_nil, Nat.reduceAdd, Nat.reduceSub, Array.replicate_succ, Array.replicate_zero, List.push_toArray, List.append_toArray, List.nil_append, List.cons_append]
 gi_wp2
 gi_loopw [3] (fun i wr => ∃ k : Nat, k ≤ m ∧ i = .int .i64 ((a0.size : Int) - 9 * k) ∧ J (gk (dl a0) k) wr ∧ KB n₀ Bs W wr)
  (fun i _ => match i with | .int _ z => (z + 9).toNat | _ => 0)
 case atStart => exact ⟨0, Nat.zero_le _, by simp, h0, KB.refl _ _ _⟩
 case round =>
  obtain ⟨k, hk, rfl, hJs, hnx⟩ := hrel
  have hBs' : wr.cell? ⟨Bs, 0, none⟩ = some (.string a0) := (show Boxed wr Bs 9 _ from (hnx.2 hBs.lt).trans hBs).cell
  by_cases hlt : k < m
  ·obtain ⟨hi, hhi⟩ : ∃ hi : Nat, (a0.size : Int) - 9 * k = hi := ⟨a0.size - 9 * k, by omega⟩
   rw [hhi]
   have hpos : 0 < hi := by omega
   have hle : hi ≤ a0.size := by omega
   obtain ⟨lo, hlo⟩ : ∃ lo : Nat, lo = hi - 9 := ⟨_, rfl⟩
   have hmx : max (0 : Int) ((hi : Int) - 9) = (lo : Int) := by omega
   have hlh : lo ≤ hi := by omega
   obtain ⟨z, hz⟩ : ∃ z, Sv.vl 10 (((dl a0).drop (9 * k)).take 9) = z := ⟨_, rfl⟩
   have hlen : a0.data.toList.length = a0.size := rfl
   have hex : (a0.extract lo hi).data.toList = (a0.data.toList.take hi).drop lo := by simp [ByteArray.data_extract, Array.toList_extract, List.extract_eq_take_drop, List.drop_take]
   have hsz : (a0.extract lo hi).size ≤ 18 := by
    have e1 : (a0.extract lo hi).size = (a0.extract lo hi).data.toList.length := rfl
    rw [e1, hex, List.length_drop, List.length_take]
    omega
   have hat : Lib.atoi (a0.extract lo hi).data.toList = some z := by
    have e1 : hi = a0.data.toList.length - 9 * k := by omega
    have e2 : lo = a0.data.toList.length - 9 * k - 9 := by omega
    rw [hex, atoi_valN (sub_alld hdig _ _) (by intro e; have := congrArg List.length e; rw [List.length_drop, List.length_take, List.length_nil] at this; omega), e1, e2, sub_valN _ _ (by omega)]; rw [← hz]; rfl
   have hgk : gk (dl a0) (k + 1) = gk (dl a0) k ++ [z] := by rw [gk, hz]
   have HE := Lib.hid hhi
   have HG := Lib.hid hgk
   clear hhi hlo hex hz hgk hlen
   gi_wp2_with (gi_at_call 204; refine (callsIn_wide.2 (Tryz.strconv_Atoi (a0.extract lo hi) z hsz hat wr)).mono ?_; rintro e W2 ⟨rfl, t', ht⟩
                have hb2 : Below wr.heap.size wr W2 := by rw [ht]; exact Lib.bytesWorld_below wr 5 t'
                clear ht
                have hJ2 := hJ _ wr W2 none hJs ⟨hb2.os, hb2.tape, hb2.output, hb2.size, fun j hj _ => hb2.block j hj⟩ (fun r e => by cases e)
                have hn2 := hnx.below hb2 (Nat.le_trans hn₀ hnx.1.size)
                obtain ⟨fn, tmps, assign, body, hy, hR⟩ := hY _ z W2 hJ2 (by rw [gk_length]; exact hlt))
   refine hR.mono ?_
   rintro e W3 (⟨rfl, hJ3, hk3⟩ | ⟨rfl, hJx3⟩)
   ·gi_wp2
    go_roundw
    case rel => exact ⟨k + 1, by omega, by have := HE.out; go_num, by rw [HG.out]; exact hJ3, hn2.trans hk3⟩
    case measure => dsimp only; omega
   gi_wp2
   refine bodyPost_ret (results_none rfl _ _ _) rfl ?_
   exact ⟨⟨_, rfl⟩, .inr ⟨_, ⟨k, hlt, rfl⟩, by rw [HG.out]; exact hJx3⟩⟩
  obtain rfl : k = m := by omega
  have hnp : ¬ (0 : Int) < (a0.size : Int) - 9 * k := by omega
  gi_wp2
  go_end0
  exact ⟨⟨_, rfl⟩, .inl (by first | exact ⟨_, rfl, hJs⟩ | exact hJs)⟩
theorem chk_stops (n : Nat) (hn : 1 ≤ n) (Bs n₀ : Nat) (a0 : ByteArray) (m : Nat) (hm1 : a0.size ≤ 9 * m) (hm2 : 9 * m < a0.size + 9) (hdig : AllD a0.data.toList) (hm : a0.size ≤ 4611686018427387904) (w : World) (hn₀ : n₀ ≤ w.heap.size) (hBs : Boxed w Bs 9 (.string a0)) :
    SeqStopsK Fence.wide n Tryz.prog 203 #[.pointer (some ⟨Bs, 0, none⟩)] (fun x : Int => #[.int .i64 x]) (KB n₀ Bs) (fun ys => ys = gk (dl a0) m) (fun pre => ∃ k, k < m ∧ pre = gk (dl a0) (k + 1)) m w := fun l J Jx W hW hJ _ hY h0 =>
  chk1_in n hn l Bs n₀ a0 m hm1 hm2 hdig hm J Jx W (Nat.le_trans hn₀ hW.size) hJ hY ((hW.block Bs hBs.lt).trans hBs) h0
def ApI (w : World) (pre : List Int) (W : World) : Prop :=
  ∃ v, W.heap[w.heap.size]? = some (.cells #[v] 35 (0, 0)) ∧ W.ownsRow w.heap.size 3 1 v pre.length (pre.map encZ)
theorem ApI.own (w : World) : Own (ApI w) := fun s A B row hs hg hr => by
  obtain ⟨v, h1, h2⟩ := hs
  refine ⟨v, ?_, ?_⟩
  · refine (hg.block _ (Array.getElem?_eq_some_iff.1 h1).1 (fun e => ?_)).trans h1
    obtain ⟨o, ho, hc⟩ := hr _ e.symm
    rw [h1] at ho
    cases ho
    cases hc
  · cases row with
    | none =>
      refine h2.kept hg ?_
      cases hv : v.ownBlock with
      | none => exact .inl rfl
      | some k => exact .inr (by simp)
    | some r =>
      obtain ⟨o, ho, hc⟩ := hr r rfl
      exact h2.kept hg (ownsRow_ne_a h2 ho (fun cur e => by rw [e] at hc; cases hc))
theorem append_in (n : Nat) (hn : 3 ≤ n) (Bs : Nat) (a0 : ByteArray) (m : Nat) (hm1 : a0.size ≤ 9 * m) (hm2 : 9 * m < a0.size + 9) (hdig : AllD a0.data.toList) (hm : a0.size ≤ 4294967296) (w : World) (hBs : Boxed w Bs 9 (.string a0)) :
    CallsIn Fence.wide n Tryz.prog 202 #[.slice none 0 0, .func (.func 203) #[] #[.pointer (some ⟨Bs, 0, none⟩)]] w fun e w' => ∃ v, e = .returned v ∧ w'.ownsRow w.heap.size 3 1 v m ((gk (dl a0) m).map encZ) ∧ Below w.heap.size w w' := by
 have hBl := hBs.lt
 have h1' : 1 ≤ n := by omega
 refine callsIn_of_wp_marks Tryz.func202 rfl trivial ?_ rfl
 simp only [Tryz.ntmps202, List.size_toArray, List.length_cons, List.length_nil, Nat.reduceAdd, Nat.reduceSub, Array.replicate_succ, Array.replicate_zero, List.push_toArray, List.append_toArray, List.nil_append, List.cons_append]
 gi_wp2
 obtain ⟨W0, hW0⟩ : ∃ W0, w.alloc (.cells #[.slice none 0 0] 35) = W0 := ⟨_, rfl⟩
 have hB0 : Below w.heap.size w W0 := by rw [← hW0]; exact (Below.refl _ w).alloc (Nat.le_refl _) _
 have hs0 : W0.heap.size = w.heap.size + 1 := by rw [← hW0]; simp
 have hb0 : W0.heap[w.heap.size]? = some (.cells #[.slice none 0 0] 35 (0, 0)) := by rw [← hW0]; exact Boxed.new _ _ _
 have hBs0 : Boxed W0 Bs 9 (.string a0) := (hB0.block Bs hBl).trans hBs
 rw [hW0]
 refine wpIn_rangeFunc_ownF rfl h1' (gf := 203) (lb := #[.pointer (some ⟨Bs, 0, none⟩)]) rfl trivial (enters_of Tryz.func203 (by kernel_rfl) rfl)
  (chk_stops (n - 1) (by omega) Bs w.heap.size a0 m hm1 hm2 hdig (by omega) W0 (by omega) hBs0) kb_t (kb_b (by omega) (by omega)) (Below.refl _ _) (fun _ => rfl)
  (fun pre W => ApI w pre W ∧ Below w.heap.size w W) (fun c pre W => False)
  (OwnFrom.and (Own.from (ApI.own w) _) (ownFrom_below (Nat.le_refl _) (by omega)))
  (fun c s A B row hs hg hr => hs) ⟨⟨_, hb0, World.ownsRow_nil _ _ _ _⟩, hB0⟩
  ?act1 ?assign ?body ?done ?stop
 case assign =>
  intro l x W K hK
  gi_wp2
  exact hK
 case body =>
  rintro l pre x W ⟨⟨v, hb, hr⟩, hB⟩ hlen
  obtain ⟨hbc, hbf⟩ := cell_of_box_a hb
  have hbl := (Array.getElem?_eq_some_iff.1 hb).1
  have hbk : some w.heap.size ≠ v.ownBlock := fun e => by
   rcases ownsRow_ne_a hr hb (fun cur e => by cases e) with h | h
   ·rw [h] at e; cases e
   exact h e.symm
  obtain ⟨i0, hi, hz0, hz1, hz2⟩ := info_parts (show (Tryz.prog.info? 3).map (fun i => (i.zero, i.size, i.bytes)) = some (some (.int .i64 0), 1, 8) by kernel_rfl)
  gi_wp2_with (first
    | (gi_at_builtin; refine wpListIn_append_own _ rfl _ _ 35 rfl w.heap.size 3 i0 (.int .i64 0) 1 8 Tryz.underlying35 hi hz0 hz1 hz2 rfl (by decide) v pre.length (pre.map encZ) rfl (hr.alloc _) ⟨W.heap.size, 0, none⟩ 1 1 [encZ x] rfl rfl (cell_one_new _ _ _) (by simp [Value.oneCell', encZ]) (by simp only [maxLen]; omega) (by omega) (by have := hB.size; simp; omega) ?_; intro v' w3 hown' hg3 hnil3
       have hb3 : w3.heap[w.heap.size]? = some (.cells #[v] 35 (0, 0)) := (hg3.block _ (by simp; omega) hbk).trans ((Below.heap_alloc _ _ _ hbl).trans hb)
       obtain ⟨hc3, hf3⟩ := cell_of_box_a hb3
       obtain ⟨g', cap', rfl⟩ : ∃ g' cap', v' = .slice (some ⟨g', 0, none⟩) (pre.length + 1) cap' := by
         rcases hown'.2 with ⟨_, h0⟩ | ⟨g', cap', cur', h', _⟩
         · omega
         · exact ⟨g', cap', h'⟩)
    | gi_in)
  have hkr : ∀ k, v.ownBlock = some k → w.heap.size ≤ k ∧ k ≠ Bs := fun k e => ⟨(hr.lt k e).1, fun e' => by have := (hr.lt k e).1; omega⟩
  have hgA : W.grownBy (W.alloc (.cells #[encZ x] 3)) none := World.grownBy_alloc W _ none
  have hb3k : KB w.heap.size Bs W w3 := ((KB.refl _ _ W).alloc hB.size _).grown hg3 (by have := hB.size; simp; omega) hkr
  have hB3 : Below w.heap.size w w3 := hB.trans hb3k.1
  refine ⟨((KeepsOthers.alloc W _).trans (KeepsOthers.of_grownBy hg3 (fun j o hj ho => ?_))).trans (KeepsOthers.setCell _ _ _), hb3k.setCell (p := ⟨w.heap.size, 0, none⟩) (Nat.le_refl _) (by simp; omega) _, ⟨_, heap_setCell_box_a _ hb3, ?_⟩, hB3.setCell (p := ⟨w.heap.size, 0, none⟩) (Nat.le_refl _) _⟩
  ·rcases (hr.alloc (.cells #[encZ x] 3)).2 with ⟨e, _⟩ | ⟨g, cap, cur, e, _, hgb, _⟩
   ·rw [e] at hj; cases hj
   rw [e] at hj
   have : g = j := by simpa [Value.ownBlock] using hj
   subst this
   rw [hgb] at ho
   cases ho
   rfl
  have h5 := hown'.kept (grownBy_setCell0_a w3 w.heap.size (.slice (some ⟨g', 0, none⟩) (pre.length + 1) cap')) (by
     refine ownsRow_ne_a hown' hb3 (fun cur e => by cases e))
  simpa using h5
 case done =>
  rintro D ys W hD rfl ⟨⟨v, hb, hr⟩, hB⟩ hK
  obtain ⟨hbc, hbf⟩ := cell_of_box_a hb
  gi_wp2
  refine ⟨by simp, .inl ⟨_, _, rfl, run_takeDeferred hK, ?_⟩⟩
  have hg5 := grownBy_putObj' W D (.deferred none)
  refine ⟨v, ?_, v, rfl, ?_, hB.trans (belowK_b (w := w) (Nat.le_refl _) W D _ _ (by omega) hK rfl rfl)⟩
  ·simp [results, Tryz.f202, go_sem]
  have h5 := hr.kept hg5 (ownsRow_ne_a hr hK (fun cur e => by cases e))
  rw [gk_length] at h5
  exact h5
 case stop =>
  rintro D c pre W hD hp hf hK
  exact hf.elim
set_option linter.unusedVariables false
open Go.RowKit
def plainOp : Op → Bool
 | .move _ | .assign _ | .load _ _ | .binOp .. | .unOp .. | .indexAddr .. | .fieldAddr .. | .store .. => true
 | _ => false
theorem plain_about {P : Program} {o : Oper} (h : plainOp o.op = true) (w : World) (ρ : Operand → Value) : o.about P w ρ = none := by
 unfold Oper.about
 cases ho : o.op <;> first | rfl | (rw [ho] at h; cases h)
theorem plain_defer {o : Oper} (h : plainOp o.op = true) : ∀ c, o.op ≠ .defer c := by
 intro c hc
 rw [hc] at h
 cases h
def EndsPlain : Result Next → Prop
 | .ok (.value _) _ => True
 | .ok .skip _ => True
 | .halt _ _ => True
 | _ => False
theorem endsPlain_value {x : Result Value} : EndsPlain (x.andThen fun v w => .ok (.value v) w) := by
 cases x <;> exact trivial
theorem endsPlain_skip {x : Result Unit} : EndsPlain (x.andThen fun _ w => .ok .skip w) := by
 cases x <;> exact trivial
theorem plain_run {P : Program} {o : Oper} (h : plainOp o.op = true) (ρ : Operand → Value) (w : World) : EndsPlain ((execOp ρ o).run P w) := by
 unfold execOp
 cases ho : o.op <;> first | (rw [ho] at h; cases h; done) | skip
 all_goals simp only [Sem.run_bind, Sem.run_pure, bind_pure_comp, Sem.run_map]
 all_goals first | exact trivial | exact endsPlain_value | exact endsPlain_skip
theorem plain_wpIn {F : Fence} {n : Nat} {P : Program} {Q : Exit → Act → World → Prop} {o : Oper} (h : plainOp o.op = true) {a : Act} {w : World} {K K' : Act → World → Prop} (hK : ∀ a w, K a w → K' a w) (hw : o.wp P a w K Q) : o.wpIn F n P a w K' Q := by
 unfold Oper.wpIn
 refine ⟨fun f hf => (by rw [plain_about h] at hf; cases hf), ?_⟩
 rw [Oper.semAt_plain F _ _ (plain_defer h)]
 unfold Oper.wp at hw
 have he := plain_run (P := P) h a.eval w
 revert he hw
 generalize (execOp a.eval o).run P w = R
 intro hw he
 cases R with
 | ok x w' =>
  cases x <;> first | exact hK _ _ hw | exact he.elim
 | halt x w' => cases x <;> first | exact hw | exact hw.elim
theorem wpAnyIn_of_wpAny {F : Fence} {n : Nat} {P : Program} {md : Region.Mode} {ops : Array Oper} {Q : Exit → Act → World → Prop} (hp : ∀ (i : Nat) (o : Oper), ops[i]? = some o → plainOp o.op = true) (hlo : ¬ LetsOut Q) :
  ∀ (fuel : Nat) (listed : Array Bool) (a : Act) (w : World), wpAny P md ops Q fuel listed a w → wpAnyIn F n P md ops Q fuel listed a w
 | 0, _, _, _, h => h
 | fuel + 1, listed, a, w, h => ⟨h.1, fun i hi => by
  have h1 := h.2 i hi
  unfold wpOp at h1
  unfold wpOpIn
  cases ho : ops[i]? with
  | none => simp only [ho] at h1 ⊢; exact wpAnyIn_of_wpAny hp hlo fuel _ a w h1
  | some o =>
   simp only [ho] at h1 ⊢
   by_cases hw : Region.wanted o (yielded ops a.tmps) = true
   ·rw [if_pos hw] at h1 ⊢
    rcases h1 with h1 | h1
    ·exact plain_wpIn (hp i o ho) (fun a' w' h' => wpAnyIn_of_wpAny hp hlo fuel _ a' w' h') h1
    ·exact absurd h1.2 hlo
   ·rw [if_neg hw] at h1 ⊢
    exact ⟨fun f hf => (by rw [plain_about (hp i o ho)] at hf; cases hf), wpAnyIn_of_wpAny hp hlo fuel _ _ w h1⟩⟩
theorem plain_all {ops : Array Oper} (h : (ops.toList.all fun o => plainOp o.op) = true) : ∀ (i : Nat) (o : Oper), ops[i]? = some o → plainOp o.op = true := fun i o ho => by
 have hm : o ∈ ops.toList := List.mem_of_getElem? (by rw [Array.getElem?_toList]; exact ho)
 have := List.all_eq_true.1 h o hm
 simpa using this
def wpAnyS (P : Program) (md : Region.Mode) (ops : Array Oper) (Q : Exit → Act → World → Prop) (S : World → Prop) (z : Nat) : Nat → Array Bool → Act → World → Prop
 | 0, listed, a, w => Region.ready md ops listed = [] ∧ Q .normal a w
 | fuel + 1, listed, a, w =>
  (Region.ready md ops listed = [] → Q .normal a w) ∧
  ∀ i ∈ Region.ready md ops listed, wpOp P ops Q i (fun a' w' => ((listed.setIfInBounds i true).getD z true = false → S w') ∧ wpAnyS P md ops Q S z fuel (listed.setIfInBounds i true) a' w') a w
section
variable {P : Program} {ops : Array Oper} {Q : Exit → Act → World → Prop} {md : Region.Mode} {S : World → Prop} {z : Nat}
theorem wpAny_of_S : ∀ (fuel : Nat) (listed : Array Bool) (a : Act) (w : World), wpAnyS P md ops Q S z fuel listed a w → wpAny P md ops Q fuel listed a w
 | 0, _, _, _, h => h
 | fuel + 1, _, _, _, h => ⟨h.1, fun i hi => wpOp_mono (fun a' w' h' => wpAny_of_S fuel _ a' w' h'.2) (h.2 i hi)⟩
theorem wpAnyS_first {i : Nat} {oi : Oper} {v : Value} (hi : ops[i]? = some oi) (hsel : ∀ (j : Nat) (o : Oper) cs b, ops[j]? = some o → o.op ≠ .select cs b)
  (hQ : ∀ c a w, Q (.panic c) (a.put oi.dst v) w → Q (.panic c) a w) (hz : (ops[z]?.map fun oz => oz.after.toList.any fun e => Region.binds md e && e.on == i) = some true) :
  ∀ (fuel : Nat) (listed : Array Bool) (a : Act) (w : World),
   (∀ j oj, ops[j]? = some oj → j ≠ i → listed.getD j true = false → (∀ e ∈ oj.after, Region.binds md e = true → e.on ≠ i) → oi.apart ops oj = true) →
   i ∈ Region.ready md ops listed → listed.getD z true = false → YieldsIf P ops S oi v a → S w →
   wpAnyS P md ops Q S z fuel (listed.setIfInBounds i true) (a.put oi.dst v) w → wpAnyS P md ops Q S z (fuel + 1) listed a w := by
 intro fuel
 induction fuel with
 | zero =>
  intro listed a w _ hr _ hy hS H
  refine ⟨fun h => (by rw [h] at hr; cases hr), fun j hj => ?_⟩
  by_cases hji : j = i
  ·subst hji
   exact hy.wpOp hi hS ⟨fun _ => hS, H⟩
  have h0 := ready_mono hj hji
  rw [H.1] at h0
  cases h0
 | succ fuel ih =>
  intro listed a w hfree hr hlz hy hS H
  refine ⟨fun h => (by rw [h] at hr; cases hr), fun j hj => ?_⟩
  by_cases hji : j = i
  ·subst hji
   exact hy.wpOp hi hS ⟨fun _ => hS, H⟩
  have h1 := H.2 j (ready_mono hj hji)
  obtain ⟨hjun, oj, hoj, hall⟩ := mem_ready.1 hj
  have hnot : ∀ e ∈ oj.after, Region.binds md e = true → e.on ≠ i := fun e he hb heq => by
   have h1 := hall e he hb
   have h0 := (mem_ready.1 hr).1
   rw [heq] at h1
   rcases Nat.lt_or_ge i listed.size with h' | h'
   ·simp [h'] at h0 h1; rw [h0] at h1; cases h1
   simp [Array.getElem?_eq_none h'] at h1
  have hjz : j ≠ z := by
   rintro rfl
   rw [hoj] at hz
   simp only [Option.map_some, Option.some.injEq, List.any_eq_true, Bool.and_eq_true, beq_iff_eq] at hz
   obtain ⟨e, he, hb, hon⟩ := hz
   exact hnot e (by simpa using he) hb hon
  have h2 := wpOp_putIf hoj (hfree j oj hoj hji hjun hnot) (fun cs b => hsel i oi cs b hi) (fun cs b => hsel j oj cs b hoj) hQ hy h1
  have hfree' : ∀ k ok, ops[k]? = some ok → k ≠ i → (listed.setIfInBounds j true).getD k true = false →
   (∀ e ∈ ok.after, Region.binds md e = true → e.on ≠ i) → oi.apart ops ok = true := fun k ok hk hki hun hno => by
   refine hfree k ok hk hki ?_ hno
   by_cases hjk : j = k
   ·subst hjk; exact hjun
   rw [getD_set_ne true hjk] at hun; exact hun
  have hlz' : (listed.setIfInBounds j true).getD z true = false := by rw [getD_set_ne true hjz]; exact hlz
  have hiz : i ≠ z := by
   rintro rfl
   obtain ⟨h0, o', ho', hall'⟩ := mem_ready.1 hr
   rw [ho'] at hz
   simp only [Option.map_some, Option.some.injEq, List.any_eq_true, Bool.and_eq_true, beq_iff_eq] at hz
   obtain ⟨e, he, hb, hon⟩ := hz
   have h1 := hall' e (by simpa using he) hb
   rw [hon] at h1
   rcases Nat.lt_or_ge i listed.size with h' | h'
   ·simp [h'] at h0 h1; rw [h0] at h1; cases h1
   simp [Array.getElem?_eq_none h'] at h1
  refine wpOp_mono (fun a' w' h3 => ?_) h2
  have hS' : S w' := h3.2.1 (by rw [getD_set_ne true hjz, getD_set_ne true hiz]; exact hlz)
  refine ⟨fun _ => hS', ih (listed.setIfInBounds j true) a' w' hfree' (ready_mono hr (Ne.symm hji)) hlz' h3.1 hS' ?_⟩
  rw [Array.setIfInBounds_comm _ _ hji]
  exact h3.2.2
theorem wpAnyS_take {i : Nat} {oi : Oper} {v : Value} {fuel : Nat} {listed : Array Bool} {a : Act} {w : World} (hi : ops[i]? = some oi)
  (hs : Region.noSelect ops = true) (hf : Region.free md ops listed i = true) (hr : (Region.ready md ops listed).contains i = true)
  (hz : (ops[z]?.map fun oz => oz.after.toList.any fun e => Region.binds md e && e.on == i) = some true) (hlz : listed.getD z true = false)
  (hQ : ∀ c a w, Q (.panic c) (a.put oi.dst v) w → Q (.panic c) a w) (hy : YieldsIf P ops S oi v a) (hS : S w)
  (h : wpAnyS P md ops Q S z fuel (listed.setIfInBounds i true) (a.put oi.dst v) w) : wpAnyS P md ops Q S z (fuel + 1) listed a w :=
 wpAnyS_first hi (Region.noSelect_spec hs) hQ hz fuel listed a w (Region.free_spec hi hf) (by simpa using hr) hlz hy hS h
theorem wpAnyS_one {i : Nat} {fuel : Nat} {listed : Array Bool} {a : Act} {w : World} (hr : Region.ready md ops listed = [i])
  (h : wpOp P ops Q i (fun a' w' => ((listed.setIfInBounds i true).getD z true = false → S w') ∧ wpAnyS P md ops Q S z fuel (listed.setIfInBounds i true) a' w') a w) : wpAnyS P md ops Q S z (fuel + 1) listed a w :=
 ⟨fun h0 => (by rw [hr] at h0; cases h0), fun j hj => (by rw [hr, List.mem_singleton] at hj; rw [hj]; exact h)⟩
theorem wpAnyS_store {i : Nat} {o : Oper} {fuel : Nat} {listed : Array Bool} {a : Act} {w w1 : World} (hr : Region.ready md ops listed = [i]) (ho : ops[i]? = some o) (hw : Region.wanted o (yielded ops a.tmps) = true) (hrun : (execOp a.eval o).run P w = .ok .skip w1)
  (hS : (listed.setIfInBounds i true).getD z true = false → S w1) (h : wpAnyS P md ops Q S z fuel (listed.setIfInBounds i true) (a.put o.dst undef) w1) : wpAnyS P md ops Q S z (fuel + 1) listed a w := by
 refine wpAnyS_one hr ?_
 unfold wpOp
 simp only [ho, hw, if_true]
 refine .inl ?_
 unfold Oper.wp
 rw [hrun]
 exact ⟨hS, h⟩
theorem wpAnyS_done {listed : Array Bool} {a : Act} {w : World} (hr : Region.ready md ops listed = []) (h : Q .normal a w) : ∀ fuel, wpAnyS P md ops Q S z fuel listed a w
 | 0 => ⟨hr, h⟩
 | _ + 1 => ⟨fun _ => h, fun j hj => (by rw [hr] at hj; cases hj)⟩
end
theorem wpIn_region_heldP {F : Fence} {n : Nat} {P : Program} {ops : Array Oper} {Q : Exit → Act → World → Prop} {S : World → Prop} (z : Nat) {id : Nat} {a : Act} {w : World} (hm : P.follows .mixedOrders = true) (hp : (ops.toList.all fun o => plainOp o.op) = true) (hlo : ¬ LetsOut Q)
  (h : wpAnyS P .any ops Q S z ops.size (Array.replicate ops.size false) a w.drew) : (Code.region id ops true).wpIn F n P Q a w :=
 wpIn_region_any hm (wpAnyIn_of_wpAny (plain_all hp) hlo _ _ _ _ (wpAny_of_S _ _ _ _ h))
set_option linter.unusedVariables false
set_option linter.unusedSimpArgs false
open Go.RowKit Go.Shelf Go.Proofs.WWords
attribute [local go_sem] Oper.semAt_some
theorem fld_snoc (d : Int) {zs : List Int} (pre : List (BkT zs)) (x : BkT zs) : fld d (pre ++ [x]) = stp d (fld d pre) x.1.1 x.1.2 := by simp [fld]
theorem fld_length (d : Int) {zs : List Int} (pre : List (BkT zs)) : (fld d pre).1.length = zs.length := by
 suffices h : ∀ (p : List Int × Int), p.1.length = zs.length → (pre.foldl (fun p x => stp d p x.1.1 x.1.2) p).1.length = zs.length from h _ (by simp)
 induction pre with
 | nil => intro p h; exact h
 | cons x t ih => intro p h; exact ih _ (by simp [stp, h])
theorem fld_range {d : Int} (h0 : 0 < d) {zs : List Int} (hz : Sv.Digs Sv.LB zs) (pre : List (BkT zs)) : 0 ≤ (fld d pre).2 ∧ (fld d pre).2 < d := by
 suffices h : ∀ (p : List Int × Int), 0 ≤ p.2 ∧ p.2 < d → 0 ≤ (pre.foldl (fun p x => stp d p x.1.1 x.1.2) p).2 ∧ (pre.foldl (fun p x => stp d p x.1.1 x.1.2) p).2 < d from h _ ⟨by simp, by simpa using h0⟩
 induction pre with
 | nil => intro p h; exact h
 | cons x t ih =>
  intro p h
  refine ih _ ?_
  have hv := rd_range (by decide) hz x.1.1
  rw [← x.2.2.2] at hv
  have hn : 0 ≤ p.2 * 1000000000 + x.1.2 := by omega
  simp only [stp]
  exact ⟨Int.tmod_nonneg _ hn, Int.tmod_lt_of_pos _ h0⟩
def ShI (w : World) (s : Nat) (d : Int) {zs : List Int} (pre : List (BkT zs)) (W : World) : Prop :=
 W.ownsRow s 3 1 (.slice (some ⟨s + 1, 0, none⟩) zs.length zs.length) zs.length ((fld d pre).1.map encZ) ∧ Boxed W s 3 (.int .i64 d) ∧ Boxed W (s + 2) 35 (.slice (some ⟨s + 1, 0, none⟩) zs.length zs.length) ∧ Boxed W (s + 3) 3 (.int .i64 (fld d pre).2)
theorem owns_own {β : Type} (base e size : Nat) (v : β → Value) (n : β → Nat) (xs : β → List Value) : Own (fun (s : β) W => W.ownsRow base e size (v s) (n s) (xs s)) := fun s A B row h2 hg hr => by
 cases row with
 | none =>
  refine h2.kept hg ?_
  cases hv : (v s).ownBlock with
  | none => exact .inl rfl
  | some k => exact .inr (by simp)
 | some r =>
  obtain ⟨o, ho, hc⟩ := hr r rfl
  exact h2.kept hg (ownsRow_ne_a h2 ho (fun cur e => by rw [e] at hc; cases hc))
theorem ShI.own (w : World) (s : Nat) (d : Int) {zs : List Int} : Own (ShI w s d (zs := zs)) := fun pre A B row h hg hr =>
 ⟨owns_own s 3 1 (fun _ => _) (fun _ => _) (fun (pre : List (BkT zs)) => (fld d pre).1.map encZ) pre A B row h.1 hg hr, boxed_own _ _ (fun _ => _) pre A B row h.2.1 hg hr, boxed_own _ _ (fun _ => _) pre A B row h.2.2.1 hg hr, boxed_own _ _ (fun (pre : List (BkT zs)) => .int .i64 (fld d pre).2) pre A B row h.2.2.2 hg hr⟩
theorem makeIn {F : Fence} {n : Nat} (w : World) {ops : Array Oper} {rest : List Oper} {o : Oper} {a : Act} {Q : Exit → Act → World → Prop}
  (hg : o.guard = none) (l c : Operand) (hop : o.op = Op.makeSlice 35 l c) (m : Nat) (hl : a.eval l = .int .i64 m) (hc : a.eval c = .int .i64 m) (hm : m ≤ 17592186044416)
  (hK : wpListIn F n Tryz.prog ops Q rest (a.put o.dst (.slice (some ⟨w.heap.size, 0, none⟩) m m)) (w.alloc (.cells (madeCells #[.int .i64 0] m) 3))) :
  wpListIn F n Tryz.prog ops Q (o :: rest) a w := by
 refine wpListIn_plain hg fun K hK' => ?_
 have hrun := run_make_row' (P := Tryz.prog) 35 3 (.int .i64 0) 8 Tryz.underlying35 (by kernel_rfl) rfl .i64 .i64 m (by omega) (by omega) w
 unfold Oper.wpIn
 refine ⟨?_, ?_⟩
 ·simp [Oper.about, hop]
 rw [Oper.semAt_plain F _ _ (by rw [hop]; intro c hc'; cases hc')]
 simp [execOp, hop, hl, hc, hrun, Result.andThen]
 exact hK' _ _ hK
theorem short_in (n : Nat) (hn : 3 ≤ n) (A0 : Option Addr) (c0 : Nat) (l0 : List Int) (d : Int) (k : Nat) (t : List Int) (w : World)
  (hr0 : Kd.C (Kd.int .i64) w A0 l0.length l0) (hd0 : 0 < d) (hd1 : d < 1000000000) (hz : Sv.Digs Sv.LB l0) (hlen : l0.length ≤ 17592186044416)
  (ht : PA.bItrim.f k (fld d (bk l0 l0.length)).1 = some t) :
  CallsIn Fence.wide n Tryz.prog 143 #[.slice A0 l0.length c0, .int .i64 d] w fun e w' => ∃ v0_ : Value, e = .returned (.tuple #[v0_, .int .i64 (fld d (bk l0 l0.length)).2]) ∧ Kd.R (Kd.int .i64) 3 w' w.heap.size (fun _ => True) v0_ t ∧ Below w.heap.size w w' := by
 have hf128 : Fence.wide.fn 134 := trivial
 have hf147 : Fence.wide.fn 144 := trivial
 have h1' : 1 ≤ n := by omega
 refine callsIn_of_wp_marks Tryz.func143 rfl trivial ?_ rfl
 simp only [Tryz.ntmps143, List.size_toArray, List.length_cons, List.length_nil, Nat.reduceAdd, Nat.reduceSub, Array.replicate_succ, Array.replicate_zero, List.push_toArray, List.append_toArray, List.nil_append, List.cons_append]
 gi_wp2_with (first | (gi_at_make; refine makeIn _ rfl _ _ rfl l0.length rfl rfl hlen ?_) | (gi_at_call 134; refine (back_in Fence.wide (n - 1) hf128 rfl _ _ _ _).mono ?_; rintro e w' ⟨rfl, rfl⟩) | gi_in)
 obtain ⟨s, hs⟩ : ∃ s, w.heap.size = s := ⟨_, rfl⟩
 simp only [hs]
 obtain ⟨W0, hW0⟩ : ∃ W0, (((((w.alloc (.cells #[.int .i64 d] 3)).alloc (.cells (madeCells #[.int .i64 0] l0.length) 3)).alloc (.cells #[.slice (some ⟨s + 1, 0, none⟩) l0.length l0.length] 35)).alloc (.cells #[.int .i64 0] 3)).alloc (.cells #[.slice A0 l0.length c0] 35)) = W0 := ⟨_, rfl⟩
 have hB0 : Below s w W0 := by
  rw [← hW0]
  refine ((((((Below.refl _ w).alloc ?_ _).alloc ?_ _).alloc ?_ _).alloc ?_ _).alloc ?_ _) <;> first | omega | (simp; omega)
 have hs0 : W0.heap.size = s + 5 := by rw [← hW0]; simp [hs]
 have e1 : (w.alloc (.cells #[.int .i64 d] 3)).heap.size = s + 1 := by simp [hs]
 have e2 : ((w.alloc (.cells #[.int .i64 d] 3)).alloc (.cells (madeCells #[.int .i64 0] l0.length) 3)).heap.size = s + 2 := by simp [hs]
 have e3 : (((w.alloc (.cells #[.int .i64 d] 3)).alloc (.cells (madeCells #[.int .i64 0] l0.length) 3)).alloc (.cells #[.slice (some ⟨s + 1, 0, none⟩) l0.length l0.length] 35)).heap.size = s + 3 := by simp [hs]
 have e4 : ((((w.alloc (.cells #[.int .i64 d] 3)).alloc (.cells (madeCells #[.int .i64 0] l0.length) 3)).alloc (.cells #[.slice (some ⟨s + 1, 0, none⟩) l0.length l0.length] 35)).alloc (.cells #[.int .i64 0] 3)).heap.size = s + 4 := by simp [hs]
 have hI0 : ShI w s d ([] : List (BkT l0)) W0 := by
  rw [← hW0]
  refine ⟨?_, ?_, ?_, ?_⟩
  ·refine World.ownsRow.alloc (World.ownsRow.alloc (World.ownsRow.alloc ?_ _) _) _
   have h := World.ownsRow_lit (base := s) (e := 3) (size := 1) (w.alloc (.cells #[.int .i64 d] 3)) (madeCells #[.int .i64 0] l0.length) l0.length (by rw [e1]; omega) (by simp only [maxLen]; omega) (by simp [madeCells])
   rw [e1] at h
   have hm : (madeCells #[.int .i64 0] l0.length).toList = (fld d ([] : List (BkT l0))).1.map encZ := by
    apply List.ext_getElem
    ·simp [fld, madeCells]
    intro i h1 h2
    simp [fld, madeCells, Nat.mod_one]
   rw [← hm]
   exact h
  ·have := ((((Boxed.new w 3 (.int .i64 d)).alloc (.cells (madeCells #[.int .i64 0] l0.length) 3)).alloc (.cells #[.slice (some ⟨s + 1, 0, none⟩) l0.length l0.length] 35)).alloc (.cells #[.int .i64 0] 3)).alloc (.cells #[.slice A0 l0.length c0] 35)
   rw [hs] at this
   exact this
  ·have := ((Boxed.new ((w.alloc (.cells #[.int .i64 d] 3)).alloc (.cells (madeCells #[.int .i64 0] l0.length) 3)) 35 (.slice (some ⟨s + 1, 0, none⟩) l0.length l0.length)).alloc (.cells #[.int .i64 0] 3)).alloc (.cells #[.slice A0 l0.length c0] 35)
   rw [e2] at this
   exact this
  have := (Boxed.new (((w.alloc (.cells #[.int .i64 d] 3)).alloc (.cells (madeCells #[.int .i64 0] l0.length) 3)).alloc (.cells #[.slice (some ⟨s + 1, 0, none⟩) l0.length l0.length] 35)) 3 (.int .i64 0)).alloc (.cells #[.slice A0 l0.length c0] 35)
  rw [e3] at this
  exact this
 have hbx : Boxed W0 (s + 4) 35 (.slice A0 l0.length c0) := by
  have := Boxed.new ((((w.alloc (.cells #[.int .i64 d] 3)).alloc (.cells (madeCells #[.int .i64 0] l0.length) 3)).alloc (.cells #[.slice (some ⟨s + 1, 0, none⟩) l0.length l0.length] 35)).alloc (.cells #[.int .i64 0] 3)) 35 (.slice A0 l0.length c0)
  rw [e4, hW0] at this
  exact this
 rw [hW0]
 clear hW0 e1 e2 e3 e4
 have mixed : Tryz.prog.follows .mixedOrders = true := by kernel_rfl
 refine wpIn_rangeFunc_ownF rfl h1' (gf := 182) (lb := #[.pointer (some ⟨s + 1 + 1 + 1 + 1, 0, none⟩)]) rfl trivial (enters_of Tryz.func182 (by kernel_rfl) rfl)
  (back_stops Fence.wide (n - 1) trivial rfl (by omega) (s + 4) s A0 c0 l0 (by omega) W0 hbx (by omega) (fun W' hb => Kd.C_below hr0 (by rw [hs]; exact hB0.trans hb))) kb_t (kb_b (by omega) (by omega)) (Below.refl _ _) (fun _ => rfl)
  (fun pre W => ShI w s d pre W ∧ Below s w W) (fun c pre W => False)
  (OwnFrom.and (Own.from (ShI.own w s d) _) (ownFrom_below (by omega) (by omega)))
  (fun c s A B row hs hg hr => hs) ⟨hI0, hB0⟩
  ?act1 ?assign ?body ?done ?stop
 case assign =>
  intro l x W K hK
  simp only [enc2]
  gi_wp2
  exact hK
 case body =>
  rintro l pre x W ⟨⟨hrow, hbd, hbs, hbr⟩, hB⟩ _
  have hfr := fld_range hd0 hz pre
  have hfl := fld_length d pre
  have hv := rd_range (by decide) hz x.1.1
  rw [← x.2.2.2] at hv
  have hx0 := x.2.1
  have hx1 := x.2.2.1
  have hsn := fld_snoc d pre x
  obtain ⟨⟨i, v⟩, hx⟩ := x
  simp only [stp] at hv hx0 hx1 hsn
  obtain ⟨r, hr⟩ : ∃ r, (fld d pre).2 = r := ⟨_, rfl⟩
  obtain ⟨o, ho⟩ : ∃ o, (fld d pre).1 = o := ⟨_, rfl⟩
  rw [hr] at hfr hsn hbr
  rw [ho] at hrow hfl hsn
  have hLB : Sv.LB = 1000000000 := rfl
  rw [hLB] at hv
  have hcd := hbd.cell
  have hcs := hbs.cell
  have hcr := hbr.cell
  have hfr' := hbr.frozen
  have hci : W.cell? ⟨s + 1, i.toNat, none⟩ = some (.int .i64 (rd o i)) := by
   rw [hrow.cellAt i.toNat (by omega), List.getElem?_map]
   have hil : i.toNat < o.length := by omega
   simp [rd, List.getElem?_eq_getElem hil, List.getD_eq_getElem?_getD]
  have hcf := hrow.frozenAt i.toNat
  have hv0 := hv.1
  have hv1 := hv.2
  have hr0' := hfr.1
  have hr1' : r < 1000000000 := by omega
  have hdne : d ≠ 0 := by omega
  have HX := Lib.hid hsn
  have HF := Lib.hid hfl
  have HR := Lib.hid hr
  have HO := Lib.hid ho
  clear hsn hfl hr ho hfr hv hLB
  gi_wp2
  obtain ⟨z, hz'⟩ : ∃ z, r * 1000000000 + v = z := ⟨_, rfl⟩
  rw [hz']
  obtain ⟨W1, hW1⟩ : ∃ W1, W.setCell ⟨s + 3, 0, none⟩ (.int .i64 z) = W1 := ⟨_, rfl⟩
  simp only [hW1]
  have hz0 : 0 ≤ z := by omega
  have hz1 : z < 1000000000000000000 := by omega
  have hrow1 : W1.ownsRow s 3 1 (.slice (some ⟨s + 1, 0, none⟩) l0.length l0.length) l0.length (o.map encZ) := by
   rw [← hW1]; exact hrow.kept (grownBy_setCell0_a W (s + 3) (.int .i64 z)) (.inr (by simp [Value.ownBlock]))
  have hbd1 : Boxed W1 s 3 (.int .i64 d) := by rw [← hW1]; exact hbd.kept (grownBy_setCell0_a W (s + 3) (.int .i64 z)) (by simp)
  have hbs1 : Boxed W1 (s + 2) 35 (.slice (some ⟨s + 1, 0, none⟩) l0.length l0.length) := by rw [← hW1]; exact hbs.kept (grownBy_setCell0_a W (s + 3) (.int .i64 z)) (by simp)
  have hcd1 := hbd1.cell
  have hcs1 := hbs1.cell
  have hko : KeepsOthers W W1 := by rw [← hW1]; exact KeepsOthers.setCell _ _ _
  have hkb : KB s (s + 4) W W1 := by rw [← hW1]; exact (KB.refl _ _ W).setCell (p := ⟨s + 3, 0, none⟩) (by simp) (by simp) _
  have hbB : Below s w W1 := hB.trans hkb.1
  have hbr1 : Boxed W1 (s + 3) 3 (.int .i64 z) := by rw [← hW1]; exact hbr.set _
  have hcr1 := hbr1.cell
  have hfr1 := hbr1.frozen
  have hci1 : W1.cell? ⟨s + 1, i.toNat, none⟩ = some (.int .i64 (rd o i)) := by
   have hil : i.toNat < o.length := by have := HF.out; omega
   rw [hrow1.cellAt i.toNat (by have := HF.out; omega), List.getElem?_map]
   simp [rd, List.getElem?_eq_getElem hil, List.getD_eq_getElem?_getD]
  have hcf1 := hrow1.frozenAt i.toNat
  clear hcd hcs hcr hfr' hci hcf hrow hbd hbs hbr
  trace_state
  have hlo : ¬ LetsOut (Exit.inBlock 1 (ownPostK (KB s (s + 4)) (fun pre W => ShI w s d pre W ∧ Below s w W) (fun c pre W => False) (pre ++ [⟨(i, v), hx⟩]) W)) := by
   rintro ⟨_, _, h⟩
   exact h
  refine wpIn_region_heldP (S := fun w' => w'.cell? ⟨s, 0, none⟩ = some (.int .i64 d) ∧ w'.cell? ⟨s + 2, 0, none⟩ = some (.slice (some ⟨s + 1, 0, none⟩) l0.length l0.length) ∧ w'.cell? ⟨s + 3, 0, none⟩ = some (.int .i64 z)) 10 mixed (by kernel_rfl) hlo ?_
  have hq0 : 0 ≤ Int.tdiv z d := Int.tdiv_nonneg hz0 (by omega)
  have hq1 : Int.tdiv z d ≤ z := Int.tdiv_le_self _ hz0
  have hm0 : 0 ≤ Int.tmod z d := Int.tmod_nonneg _ hz0
  have hm1 : Int.tmod z d < d := Int.tmod_lt_of_pos _ hd0
  have hwq : IntKind.i64.wrap (Int.tdiv z d) = Int.tdiv z d := by rw [IntKind.wrap_i64]; omega
  have hwm : IntKind.i64.wrap (Int.tmod z d) = Int.tmod z d := by rw [IntKind.wrap_i64]; omega
  have hHeld : W1.drew.cell? ⟨s, 0, none⟩ = some (.int .i64 d) ∧ W1.drew.cell? ⟨s + 2, 0, none⟩ = some (.slice (some ⟨s + 1, 0, none⟩) l0.length l0.length) ∧ W1.drew.cell? ⟨s + 3, 0, none⟩ = some (.int .i64 z) := ⟨hcd1, hcs1, hcr1⟩
  refine wpAnyS_take (i := 0) (v := .slice (some ⟨s + 1, 0, none⟩) l0.length l0.length) rfl (by kernel_rfl) (by kernel_rfl) (by kernel_rfl) (by kernel_rfl) (by kernel_rfl) (fun _ _ _ h => h) (.inl ⟨by rfl, fun w hSw => by obtain ⟨s1, s2, s3⟩ := hSw; go_simp; all_goals first | with_reducible rfl | (rw [hwq]; done) | (rw [hwm]; done)⟩) hHeld ?_
  (try simp only [Act.put, List.setIfInBounds_toArray, List.set_cons_zero, List.set_cons_succ])
  refine wpAnyS_take (i := 1) (v := .int .i64 i) rfl (by kernel_rfl) (by kernel_rfl) (by kernel_rfl) (by kernel_rfl) (by kernel_rfl) (fun _ _ _ h => h) (.inl ⟨by rfl, fun w hSw => by obtain ⟨s1, s2, s3⟩ := hSw; go_simp; all_goals first | with_reducible rfl | (rw [hwq]; done) | (rw [hwm]; done)⟩) hHeld ?_
  (try simp only [Act.put, List.setIfInBounds_toArray, List.set_cons_zero, List.set_cons_succ])
  refine wpAnyS_take (i := 2) (v := .int .i64 z) rfl (by kernel_rfl) (by kernel_rfl) (by kernel_rfl) (by kernel_rfl) (by kernel_rfl) (fun _ _ _ h => h) (.inl ⟨by rfl, fun w hSw => by obtain ⟨s1, s2, s3⟩ := hSw; go_simp; all_goals first | with_reducible rfl | (rw [hwq]; done) | (rw [hwm]; done)⟩) hHeld ?_
  (try simp only [Act.put, List.setIfInBounds_toArray, List.set_cons_zero, List.set_cons_succ])
  refine wpAnyS_take (i := 3) (v := .int .i64 d) rfl (by kernel_rfl) (by kernel_rfl) (by kernel_rfl) (by kernel_rfl) (by kernel_rfl) (fun _ _ _ h => h) (.inl ⟨by rfl, fun w hSw => by obtain ⟨s1, s2, s3⟩ := hSw; go_simp; all_goals first | with_reducible rfl | (rw [hwq]; done) | (rw [hwm]; done)⟩) hHeld ?_
  (try simp only [Act.put, List.setIfInBounds_toArray, List.set_cons_zero, List.set_cons_succ])
  refine wpAnyS_take (i := 5) (v := .int .i64 z) rfl (by kernel_rfl) (by kernel_rfl) (by kernel_rfl) (by kernel_rfl) (by kernel_rfl) (fun _ _ _ h => h) (.inl ⟨by rfl, fun w hSw => by obtain ⟨s1, s2, s3⟩ := hSw; go_simp; all_goals first | with_reducible rfl | (rw [hwq]; done) | (rw [hwm]; done)⟩) hHeld ?_
  (try simp only [Act.put, List.setIfInBounds_toArray, List.set_cons_zero, List.set_cons_succ])
  refine wpAnyS_take (i := 6) (v := .int .i64 d) rfl (by kernel_rfl) (by kernel_rfl) (by kernel_rfl) (by kernel_rfl) (by kernel_rfl) (fun _ _ _ h => h) (.inl ⟨by rfl, fun w hSw => by obtain ⟨s1, s2, s3⟩ := hSw; go_simp; all_goals first | with_reducible rfl | (rw [hwq]; done) | (rw [hwm]; done)⟩) hHeld ?_
  (try simp only [Act.put, List.setIfInBounds_toArray, List.set_cons_zero, List.set_cons_succ])
  refine wpAnyS_take (i := 4) (v := .int .i64 (Int.tdiv z d)) rfl (by kernel_rfl) (by kernel_rfl) (by kernel_rfl) (by kernel_rfl) (by kernel_rfl) (fun _ _ _ h => h) (.inl ⟨by rfl, fun w hSw => by obtain ⟨s1, s2, s3⟩ := hSw; go_simp; all_goals first | with_reducible rfl | (rw [hwq]; done) | (rw [hwm]; done)⟩) hHeld ?_
  (try simp only [Act.put, List.setIfInBounds_toArray, List.set_cons_zero, List.set_cons_succ])
  refine wpAnyS_take (i := 7) (v := .int .i64 (Int.tmod z d)) rfl (by kernel_rfl) (by kernel_rfl) (by kernel_rfl) (by kernel_rfl) (by kernel_rfl) (fun _ _ _ h => h) (.inl ⟨by rfl, fun w hSw => by obtain ⟨s1, s2, s3⟩ := hSw; go_simp; all_goals first | with_reducible rfl | (rw [hwq]; done) | (rw [hwm]; done)⟩) hHeld ?_
  (try simp only [Act.put, List.setIfInBounds_toArray, List.set_cons_zero, List.set_cons_succ])
  refine wpAnyS_take (i := 8) (v := .pointer (some ⟨s + 1, i.toNat, none⟩)) rfl (by kernel_rfl) (by kernel_rfl) (by kernel_rfl) (by kernel_rfl) (by kernel_rfl) (fun _ _ _ h => h) (.inl ⟨by rfl, fun w hSw => by obtain ⟨s1, s2, s3⟩ := hSw; go_simp; all_goals first | with_reducible rfl | (rw [hwq]; done) | (rw [hwm]; done)⟩) hHeld ?_
  (try simp only [Act.put, List.setIfInBounds_toArray, List.set_cons_zero, List.set_cons_succ])
  have hbd1d : Boxed W1.drew s 3 (.int .i64 d) := hbd1
  have hbs1d : Boxed W1.drew (s + 2) 35 (.slice (some ⟨s + 1, 0, none⟩) l0.length l0.length) := hbs1
  have hbr1d : Boxed W1.drew (s + 3) 3 (.int .i64 z) := hbr1
  have hst := (hrow1.kept (w' := W1.drew) (row := none) ⟨rfl, rfl, rfl, Nat.le_refl _, fun _ _ _ => rfl⟩ (.inr (by simp [Value.ownBlock]))).stored i.toNat (.int .i64 (Int.tdiv z d))
  refine wpAnyS_store (i := 9) (w1 := W1.drew.setCell ⟨s + 1, i.toNat, none⟩ (.int .i64 (Int.tdiv z d))) (by kernel_rfl) rfl (by rfl) (by go_simp) (fun _ => ?_) ?_
  ·exact ⟨(hbd1d.kept hst.2 (by simp)).cell, (hbs1d.kept hst.2 (by simp)).cell, (hbr1d.kept hst.2 (by simp)).cell⟩
  (try simp only [Act.put, List.setIfInBounds_toArray, List.set_cons_zero, List.set_cons_succ])
  refine wpAnyS_store (i := 10) (w1 := (W1.drew.setCell ⟨s + 1, i.toNat, none⟩ (.int .i64 (Int.tdiv z d))).setCell ⟨s + 3, 0, none⟩ (.int .i64 (Int.tmod z d))) (by kernel_rfl) rfl (by rfl) (by go_simp) (fun h => by have h' : true = false := h; cases h') ?_
  refine wpAnyS_done (by kernel_rfl) ?_ _
  have hq2 : fld d (pre ++ [⟨(i, v), hx⟩]) = (o.set i.toNat (Int.tdiv z d), Int.tmod z d) := by rw [HX.out, hz']
  refine ⟨((hko.trans (KeepsOthers.drew _)).trans (KeepsOthers.setCell _ _ _)).trans (KeepsOthers.setCell _ _ _), (hkb.drew.setCell (p := ⟨s + 1, i.toNat, none⟩) (by simp) (by simp) _).setCell (p := ⟨s + 3, 0, none⟩) (by simp) (by simp) _, ⟨?_, ?_, ?_, ?_⟩, ((hbB.drew).setCell (p := ⟨s + 1, i.toNat, none⟩) (by simp) _).setCell (p := ⟨s + 3, 0, none⟩) (by simp) _⟩
  ·rw [hq2, List.map_set]
   exact hst.1.kept (grownBy_setCell0_a _ (s + 3) _) (.inr (by simp [Value.ownBlock]))
  ·exact (hbd1d.kept hst.2 (by simp)).kept (grownBy_setCell0_a _ (s + 3) _) (by simp)
  ·exact (hbs1d.kept hst.2 (by simp)).kept (grownBy_setCell0_a _ (s + 3) _) (by simp)
  rw [hq2]
  exact (hbr1d.kept hst.2 (by simp)).set _
 case done =>
  rintro D ys W hD rfl ⟨⟨hrow, hbd, hbs, hbr⟩, hB⟩ hK
  have hfl := fld_length d (bk l0 l0.length)
  obtain ⟨fo, hfo⟩ : ∃ fo, (fld d (bk l0 l0.length)).1 = fo := ⟨_, rfl⟩
  obtain ⟨fr, hfr⟩ : ∃ fr, (fld d (bk l0 l0.length)).2 = fr := ⟨_, rfl⟩
  rw [hfo] at hrow hfl ht
  rw [hfr] at hbr
  simp only [hfr]
  have hR : Kd.R (Kd.int .i64) 3 W.drew w.heap.size (fun k => k = s + 1) (.slice (some ⟨s + 1, 0, none⟩) l0.length l0.length) fo := by
   refine Kd.R_of_own (enc := .int .i64) ?_ (fun k hk => ?_)
   ·have := hrow.kept (w' := W.drew) (row := none) ⟨rfl, rfl, rfl, Nat.le_refl _, fun _ _ _ => rfl⟩ (.inr (by simp [Value.ownBlock]))
    rw [hfl, hs]
    exact this
   simpa [Value.ownBlock] using hk.symm
  have hBd : Below w.heap.size w W.drew := by rw [hs]; exact hB.drew
  have hbsd : Boxed W.drew (s + 2) 35 (.slice (some ⟨s + 1, 0, none⟩) l0.length l0.length) := hbs
  have hbrd : Boxed W.drew (s + 3) 3 (.int .i64 fr) := hbr
  have hKd : W.drew.heap[D]? = some (.deferred (some [])) := hK
  gi_wp2
  refine wpIn_wide.2 ?_
  go_region_held3 (fun w' => w'.cell? ⟨s + 2, 0, none⟩ = some (.slice (some ⟨s + 1, 0, none⟩) l0.length l0.length) ∧ w'.cell? ⟨s + 3, 0, none⟩ = some (.int .i64 fr)) (first | exact ⟨hbsd.cell, hbrd.cell⟩ | exact ⟨hc2.cell, hc3.cell⟩) (first | (go_at_call 144; refine (PA.trimR k _ ⟨hR⟩ ht).mono ?_; rintro e w' ⟨rfl, ho, hk⟩; have hb := below_step hBd hk; replace ho := ho.out; have hc2 : Boxed w' (s + 2) 35 (.slice (some ⟨s + 1, 0, none⟩) l0.length l0.length) := (hk.block (s + 2) hbsd.lt).trans hbsd; have hc3 : Boxed w' (s + 3) 3 (.int .i64 fr) := (hk.block (s + 3) hbrd.lt).trans hbrd))
  gi_wp2
  refine ⟨by simp, .inl ⟨_, _, rfl, run_takeDeferred (show w'.heap[D]? = some (.deferred (some [])) from (hk.block D (Array.getElem?_eq_some_iff.1 hKd).1).trans hKd), ?_⟩⟩
  have hKe : w'.heap[D]? = some (.deferred (some [])) := (hk.block D (Array.getElem?_eq_some_iff.1 hKd).1).trans hKd
  refine ⟨.tuple #[.slice (some ⟨s + 1, 0, none⟩) t.length l0.length, .int .i64 fr], ?_, _, by rw [hfr], ?_, hb.trans (by rw [hs]; exact belowK_b (w := w) (by omega) w' D _ _ (by omega) hKe rfl rfl)⟩
  ·simp [results, Tryz.f143, go_sem]
  obtain ⟨inner, ho2⟩ := Kd.R_own ho
  have hne := ownsRow_ne_a ho2 hKe (fun cur e => by cases e)
  exact Kd.R_mono (Kd.R_grown (Kd.R_tight rfl ho) (grownBy_putObj' w' D (.deferred none)) (fun k hk e => by rw [← hk] at hne; rcases hne with h | h; exact (by cases h); exact h e)) (fun _ _ => trivial)
 case stop =>
  rintro D c pre W hD hp hf hK
  exact hf.elim
theorem bIshort.calls (k : Nat) (A0 : Option Addr) (c0 : Nat) (l0 : List Int) (a1 : Int) (r1 : List Int) (r2 : Int) (w : World) (hr0 : Kd.C (Kd.int .i64) w A0 l0.length l0) (hc0 : l0.length ≤ c0) (h : bIshort.f k l0 a1 = some (r1, r2)) :
  Calls Tryz.prog 143 #[.slice A0 l0.length c0, .int .i64 a1] w fun e w' => ∃ v0_ : Value, e = .returned (.tuple #[v0_, .int .i64 r2]) ∧ Kd.R (Kd.int .i64) 3 w' w.heap.size (fun _ => True) v0_ r1 ∧ Below w.heap.size w w' := by
 unfold bIshort.f at h
 split at h
 ·rename_i hc
  obtain ⟨t, ht, h⟩ := Option.bind_eq_some_iff.mp h
  simp only [Option.some.injEq, Prod.mk.injEq] at h
  obtain ⟨rfl, rfl⟩ := h
  exact callsIn_wide.1 (short_in 3 (by omega) A0 c0 l0 a1 k t w hr0 hc.1 hc.2.1 hc.2.2.1 hc.2.2.2 ht)
 cases h
end Go.Proofs.YtihbebbabjklkaaGreatDoor
namespace Go.Proofs.YtihbebbabjklkaaGreatDoor.PA
set_option linter.unusedVariables false
set_option linter.unusedSimpArgs false
open Go.RowKit Go.Proofs.WWords Go.Proofs.WLast Go.Proofs.WMore
instance : Ctr 142 (type_of% @bIorder.calls) := ⟨@bIorder.calls, _, Tryz.func142, by kernel_rfl, rfl⟩
instance : Ctr 143 (type_of% @bIshort.calls) := ⟨@bIshort.calls, _, Tryz.func143, by kernel_rfl, rfl⟩
instance : Ctr 107 (type_of% @bItimes.calls) := ⟨@bItimes.calls, _, Tryz.func107, by kernel_rfl, rfl⟩
theorem Rg {w w1 : World} {base : Nat} {ok : Nat → Prop} {v : Value} {xs : List Int} {row : Option Nat} (h : Z0 (Kd.R (Kd.int .i64) 3 w base ok v xs)) (hg : w.grownBy w1 row) (hn : ∀ k, v.ownBlock = some k → some k ≠ row) : Z0 (Kd.R (Kd.int .i64) 3 w1 base ok v xs) :=
 ⟨Kd.R_reok rfl (Kd.R_grown (Kd.R_tight rfl h.out) hg (fun k e => hn k e.symm)) (fun k e => h.out.1 k e)⟩
theorem bIestimateW.ok {k : Nat} {l0 : List Int} {j : Int} {l1 : List Int} {r : Int × List Int} (h : bIestimateW.f k l0 j l1 = some r) : 0 ≤ j ∧ j + (l1.length : Int) + 1 ≤ (l0.length : Int) := by
 unfold bIestimateW.f at h
 exact (gn h).1
instance : Ctr 145 (type_of% @estW) := ⟨@estW, _, Tryz.func145, by kernel_rfl, rfl⟩
theorem divC (k : Nat) (A0 : Option Addr) (c0 : Nat) (l0 : List Int) (A1 : Option Addr) (c1 : Nat) (l1 r1 r2 : List Int) (w : World) (h0 : Kd.C (Kd.int .i64) w A0 l0.length l0) (hc0 : l0.length ≤ c0) (h1 : Kd.C (Kd.int .i64) w A1 l1.length l1) (hc1 : l1.length ≤ c1) (h : bIdivide.f k l0 l1 = some (r1, r2)) :
  Calls Tryz.prog 104 #[.slice A0 l0.length c0, .slice A1 l1.length c1] w fun e w' => ∃ X1 d1 X2 d2, e = .returned (.tuple #[.slice X1 r1.length d1, .slice X2 r2.length d2]) ∧ Kd.C (Kd.int .i64) w' X1 r1.length r1 ∧ r1.length ≤ d1 ∧ Kd.C (Kd.int .i64) w' X2 r2.length r2 ∧ r2.length ≤ d2 ∧ Below w.heap.size w w' := by
 have HB := Z0.mk (Below.refl w.heap.size w)
 have hu := Tryz.underlying35
 unfold bIdivide.f at h
 obtain ⟨t, A3, h⟩ := bnd h
 rcases jd h with ⟨-, b1, h⟩ | ⟨-, b1, h⟩
 · cases h
   go_enter Tryz.func104, Tryz.ntmps104
   go_wp2_with (refine cG rfl ?_; intro w1 hb; replace HB := fB HB hb)
   go_ret2
   exact ⟨none, 0, A0, c0, rfl, Kd.C_nil _ _, Nat.le_refl _, Kd.C_below h0 bqs, hc0, bqs⟩
 rcases je h with ⟨-, b2, b3, h⟩ | ⟨-, b2, b3, h⟩
 · obtain ⟨b4, -, h⟩ := gd h
   obtain ⟨⟨q, x⟩, A4, h⟩ := bnd h
   obtain ⟨t', A5, h⟩ := bnd h
   cases h
   have b5 : decide (0 < l1.length) = true := decide_eq_true (by omega)
   go_enter Tryz.func104, Tryz.ntmps104
   go_wp2_with (first
    | ((with_reducible refine gc_ 142 rfl ?_); refine cG rfl ?_; intro w1 hb; replace h0 := Kd.C_below h0 hb; replace h1 := Kd.C_below h1 hb; replace HB := fB HB hb; clear hb; obtain ⟨ad, rfl, hx, p, q⟩ := atI h1 0 (by omega) b4; rw [show ((0 : Int)).toNat = 0 from rfl, Addr.add_zero'] at hx; have q' : (0 < l1.length) = True := eq_true (by omega))
    | ((with_reducible refine gd_ 34 rfl ?_); refine litR (Kd.int .i64) [x] [.int .i64 x] (Kd.reps_scalar [x]) ?_; intro v3 w3 hb HO; obtain ⟨A5', c5, rfl⟩ := Kd.R_slice HO.out; replace h2 := Kd.C_below h2 hb; replace HB := fB HB hb; clear hb)
    | ((with_reducible refine gc_ 144 rfl ?_); refine cX rfl ?_; rintro _ w4 ⟨rfl, HO', hb⟩; refine ⟨_, rfl, ?_⟩; replace h2 := Kd.C_below h2 hb; replace HB := fB HB hb; clear hb)
    | (refine cX rfl ?_; rintro _ w2 ⟨v2, rfl, h2, hb⟩; refine ⟨_, rfl, ?_⟩; obtain ⟨A2', c2, rfl, hc2, h2⟩ := Kd.R_reads h2; replace HB := fB HB hb; clear hb))
   go_ret2
   obtain ⟨-, hc, h3⟩ := Kd.R_reads' HO'.out
   exact ⟨_, _, _, _, rfl, cq h2, hc2, cq h3, hc, bqs⟩
 have hj := i64_w ((l1.length : Int) - 1)
 generalize hj2 : wrap64 ((l1.length : Int) - 1) = j at h hj
 obtain ⟨-, b4, h⟩ := gd h
 obtain ⟨-, b5, h⟩ := gd h
 obtain ⟨b9, b6, b7, h⟩ := fQ h
 obtain ⟨sc, hsc, h⟩ := yb h
 obtain ⟨t1, A4, h⟩ := bnd h
 obtain ⟨b8, h⟩ := gn h
 obtain ⟨t2, A5, h⟩ := bnd h
 have H' := Z0.mk h
 clear h
 generalize hv : wrap64 (Int.tdiv 1000000000 (wrap64 (rd l1 j + 1))) = sv at hsc
 go_enter Tryz.func104, Tryz.ntmps104
 go_wp2_with (first
  | ((with_reducible refine gc_ 142 rfl ?_); refine cG rfl ?_; intro w1 hb; replace h0 := Kd.C_below h0 hb; replace h1 := Kd.C_below h1 hb; replace HB := fB HB hb; clear hb; obtain ⟨ad, rfl, hx, p, q⟩ := atI h1 j)
  | ((with_reducible refine gd_ 44 rfl ?_); refine litR (Kd.int .i64) [sv] [.int .i64 sv] (Kd.reps_scalar [sv]) ?_; intro v2 w2 hb HS; rw [← hsc.out] at HS; obtain ⟨As, cs, rfl, hcs, hs⟩ := Kd.R_reads HS.out; replace h0 := Kd.C_below h0 hb; replace h1 := Kd.C_below h1 hb; replace HB := fB HB hb; clear hb)
  | ((with_reducible refine gd_ 47 rfl ?_); refine cX rfl ?_; rintro _ w3 ⟨v3, rfl, HU, hb⟩; refine ⟨_, rfl, ?_⟩; replace HU := Z0.mk HU; have HC := Z0.mk hb; clear hb)
  | ((with_reducible refine gate_builtin (b := .append) rfl ?_); at_builtin; refine apG 0 HU HC rfl b8 ?_; intro v4 w4 HU' HC' _; have hb2 := HC'.out)
  | ((with_reducible refine gd_ 52 rfl ?_); refine cX rfl ?_; rintro _ w5 ⟨v5, rfl, HV, hb⟩; refine ⟨_, rfl, ?_⟩; replace HV := Z0.mk (Kd.R_mono (ok' := fun k => True ∧ some k ≠ v4.ownBlock) (Kd.R_lower (Kd.R_new' HV (Kd.R_lt HU'.out)) (below_size hb2)) (fun _ h => h)); replace HU' := Z0.mk (Kd.R_below HU'.out hb); replace HC' := Z0.mk (below_step HC'.out hb); clear hb))
 clear HU HC hb2 HS hx p q
 go_loopg [9] k (fun kq v9 w' => ∃ xs : List Int, Z0 (bIdivide.l0 kq l0 sc xs t2 = some (r1, r2)) ∧ kq ≤ k ∧ Z0 (Kd.R (Kd.int .i64) 3 w' w2.heap.size (fun _ => True) v9 xs) ∧ Z0 (Kd.R (Kd.int .i64) 3 w' w2.heap.size (fun k => True ∧ some k ≠ v9.ownBlock) v5 t2) ∧ Z0 (Below w2.heap.size w2 w'))
 case atStart => exact ⟨_, H', Nat.le_refl _, HU', HV, HC'⟩
 clear H' HU' HV HC'
 obtain ⟨xs, H, hk, HU, HV, HC⟩ := hrel
 obtain ⟨Au, cu, rfl⟩ := Kd.R_slice HU.out
 cases gk with
 | zero => cases H.out
 | succ k1 =>
 replace H := H.out
 unfold bIdivide.l0 at H
 rcases jd H with ⟨d1, d2, H⟩ | ⟨d1, d2, H⟩
 · have d3 : decide (xs.length ≤ l0.length) = true := decide_eq_true (by omega)
   obtain ⟨d4, H⟩ := gn H
   have H' := Z0.mk H
   clear H
   go_wp2_with ((with_reducible refine gate_builtin (b := .append) rfl ?_); at_builtin; refine apG 0 HU HC rfl d4 ?_; intro v4 w4 HU' HC' hV)
   go_roundg k1
   case measure => omega
   case rel => exact ⟨_, H', by omega, HU', hV _ _ HV.out, HC'⟩
 have d3 : decide (xs.length ≤ l0.length) = false := decide_eq_false (by omega)
 have hn := i64_w ((xs.length : Int) - (t2.length : Int))
 generalize hn2 : wrap64 ((xs.length : Int) - (t2.length : Int)) = n at H hn
 obtain ⟨n0, -, H⟩ := gd H
 obtain ⟨n1, -, H⟩ := gd H
 obtain ⟨ys, hys⟩ : ∃ ys : List Int, Z0 (ys = List.replicate n.toNat 0) := ⟨_, ⟨rfl⟩⟩
 rw [← hys.out] at H
 have H' := Z0.mk H
 clear H
 obtain ⟨Av, cv, rfl⟩ := Kd.R_slice HV.out
 have nV := HV.out.1
 go_wp2_with (refine mkI n ys rfl n0 n1 hys ?_; intro Ao co w6 hb HO)
 have nO : ∀ k, (Value.slice Au xs.length cu).ownBlock = some k ∨ (Value.slice Av t2.length cv).ownBlock = some k → some k ≠ (Value.slice Ao ys.length co).ownBlock := fun k hk e => by
  have h1 := Kd.R_base HO.out k e.symm
  rcases hk with hk | hk
  · have := Kd.R_lt HU.out k hk; omega
  · have := Kd.R_lt HV.out k hk; omega
 replace HO := Z0.mk (Kd.R_lower HO.out (below_size HC.out))
 replace HU := Z0.mk (Kd.R_below HU.out hb)
 replace HV := Z0.mk (Kd.R_mono (ok' := fun _ => True) (Kd.R_below HV.out hb) (fun _ _ => trivial))
 replace HC := Z0.mk (below_step HC.out hb)
 clear hb
 generalize xs.length = lu at *
 go_loopg [13] k1 (fun kq v13 w' => ∃ (xs zs : List Int) (j : Int), v13 = .int .i64 j ∧ Z0 (bIdivide.l1 kq sc xs t2 zs j = some (r1, r2)) ∧ kq ≤ k1 ∧ Z0 (Kd.R (Kd.int .i64) 3 w' w2.heap.size (fun _ => True) (.slice Au lu cu) xs) ∧ Z0 (Kd.R (Kd.int .i64) 3 w' w2.heap.size (fun _ => True) (.slice Av t2.length cv) t2) ∧ Z0 (Kd.R (Kd.int .i64) 3 w' w2.heap.size (fun _ => True) (.slice Ao ys.length co) zs) ∧ Z0 (Below w2.heap.size w2 w'))
 case atStart => exact ⟨xs, ys, wrap64 (n - 1), by first | rfl | exact congrArg _ (by clear hn hn2 H' HU HV HO HC nO; unfold wrap64; omega), H', Nat.le_refl _, HU, HV, HO, HC⟩
 clear H' HU HV HO HC n0 n1 hys hn d1 d2 d3
 obtain ⟨xs, zs, j, rfl, H, hk1, HU, HV, HO, HC⟩ := hrel
 obtain ⟨hlu, hcu, CU⟩ := Kd.R_reads' HU.out
 obtain ⟨hlo, -, -⟩ := Kd.R_reads' HO.out
 cases gk with
 | zero => cases H.out
 | succ k2 =>
 replace H := H.out
 unfold bIdivide.l1 at H
 rcases jh H with ⟨-, f1, H⟩ | ⟨-, f1, H⟩
 · obtain ⟨⟨q, us⟩, A6, H⟩ := bnd H
   dsimp only at H
   obtain ⟨f2, f3, H⟩ := gd H
   obtain ⟨f4, f5, H⟩ := gd H
   have H' := Z0.mk H
   clear H
   obtain ⟨-, e2⟩ := bIestimateW.ok A6.out
   obtain ⟨g, cg, e, -⟩ := Kd.R_form HU.out (by omega)
   injection e with e _ ec
   subst e
   subst ec
   subst hlu
   have f6 : j < (ys.length : Int) := by omega
   have hmE := Kd.C_max CU
   have s1 : IntKind.i64.wrap (j + (t2.length : Int)) = j + (t2.length : Int) := by rw [IntKind.wrap_i64]; omega
   have s2 : IntKind.i64.wrap (j + (t2.length : Int) + 1) = j + (t2.length : Int) + 1 := by rw [IntKind.wrap_i64]; omega
   have s3 : decide (j ≤ j + (t2.length : Int) + 1) = true := decide_eq_true (by omega)
   have s4 : decide (j + (t2.length : Int) + 1 ≤ (cu : Int)) = true := decide_eq_true (by omega)
   have s5 : j + (t2.length : Int) + 1 ≤ (cu : Int) := by omega
   have s6 : j ≤ j + (t2.length : Int) + 1 := by omega
   have s7 : (j + (t2.length : Int) + 1).toNat - j.toNat = t2.length + 1 := by omega
   have nG : ∀ k, (Value.slice Av t2.length cv).ownBlock = some k → some k ≠ some g := fun k hk => (nV k hk).2
   have HVg : Z0 (∀ W', wr.grownBy W' (some g) → Kd.C (Kd.int .i64) W' Av t2.length t2) := ⟨fun W' hg => (Kd.R_reads' (Rg HV hg nG).out).2.2⟩
   clear hmE CU hlo
   go_wp2_with (first
    | ((with_reducible refine gc_ 145 rfl ?_); refine cX rfl ?_; rintro _ w3 ⟨rfl, HU', hg⟩; refine ⟨_, rfl, ?_⟩; replace HV := Rg HV hg nG; have HO' := Rg HO hg (fun k hk e => nO g (.inl rfl) (e.symm.trans hk.symm)); have HC' := Z0.mk (Below.grown HC.out hg (below_size HC.out) (fun k e => by cases e; exact Kd.R_base HU.out g rfl)); obtain ⟨h, rfl, c3, c4, c5, c6⟩ := ownF HO' j f2 f6)
    | ((with_reducible refine gate_store rfl ?_); refine stI j q HO' HC' rfl ?_; intro w4 HO'' hg2 HC''))
   go_roundg k2
   case measure => omega
   case rel => exact ⟨us, _, _, rfl, H', by omega, Rg HU' hg2 (fun k hk => nO k (.inl hk)), Rg HV hg2 (fun k hk => nO k (.inr hk)), HO'', HC''⟩
 · obtain ⟨x3, A6, H⟩ := bnd H
   obtain ⟨f2, f3, H⟩ := gd H
   obtain ⟨⟨rr, _⟩, A7, H⟩ := bnd H
   obtain ⟨o3, A8, H⟩ := bnd H
   cases H
   clear hlu hlo hcu CU
   go_wp2
   have hd := (Below.refl wr.heap.size wr).drew
   obtain ⟨ad2, rfl, hx, p, q⟩ := atI (Kd.C_below (Kd.C_below hs HC.out) hd) 0 (by omega) f2
   rw [show ((0 : Int)).toNat = 0 from rfl, Addr.add_zero'] at hx
   have f4 : (0 < sc.length) = True := eq_true (by omega)
   replace HU := Z0.mk (Kd.R_below HU.out hd)
   replace HO := Z0.mk (Kd.R_below HO.out hd)
   replace HC := Z0.mk (below_step HC.out hd)
   go_region_held3 (fun w' => w'.cell? ad2 = some (.int .i64 (rd sc 0)))
    (exact hx)
    (first
    | (go_at_call 144; refine (trimR k2 _ HU A6.out).mono ?_; rintro _ w7 ⟨rfl, HU', hb⟩; replace hx := pw_cell_below hb hx; replace HO := Z0.mk (Kd.R_below HO.out hb); replace HC := Z0.mk (below_step HC.out hb); obtain ⟨-, hc7, C7⟩ := Kd.R_reads' HU'.out)
    | (go_at_call 143; refine (bIshort.calls k2 _ _ x3 (rd sc 0) _ _ _ C7 hc7 A7.out).mono ?_; rintro _ w8 ⟨v8, rfl, hs8, hb⟩; replace hx := pw_cell_below hb hx; replace HO := Z0.mk (Kd.R_below HO.out hb); replace HC := Z0.mk (below_step HC.out hb); obtain ⟨A8', c8, rfl, hc8, C8⟩ := Kd.R_reads hs8))
   all_goals go_wp2_with ((with_reducible refine gc_ 144 rfl ?_); refine cX rfl ?_; rintro _ w9 ⟨rfl, HO', hb⟩; refine ⟨_, rfl, ?_⟩; replace C8 := Kd.C_below C8 hb; replace HC := Z0.mk (below_step HC.out hb))
   go_ret2
   obtain ⟨-, hc9, C9⟩ := Kd.R_reads' HO'.out
   exact ⟨_, _, _, _, rfl, cq C9, hc9, cq C8, hc8, below_step HB.out (below_step HC.out (by first | exact Below.refl _ _ | exact bq))⟩
theorem litI (W : World) (t : TypeId) (x : Int) : Kd.C (Kd.int .i64) (W.alloc (.cells #[.int .i64 x] t)) (some ⟨W.heap.size, 0, none⟩) [x].length [x] :=
 Kd.C_of_reads (d := (0 : Int)) ⟨rfl, by simp, fun _ => ⟨_, rfl, fun j hj => by
  obtain rfl : j = 0 := by simp at hj; omega
  rw [Addr.add_zero']
  exact (blk_cell (blk_new W _) 0).trans rfl⟩⟩
theorem C_set {w : World} {A : Option Addr} {n : Nat} {xs : List Int} (h : Kd.C (Kd.int .i64) w A n xs) {p : Addr} {v : Value} (hp : w.cell? p = some v) (hv : ∀ i, v ≠ .int .i64 i) (u : Value) : Kd.C (Kd.int .i64) (w.setCell p u) A n xs := by
 obtain ⟨h1, h2, h3⟩ := Kd.reads_of_C (enc := Value.int .i64) (d := (0 : Int)) (h1 := fun _ => rfl) h
 refine Kd.C_of_reads (d := (0 : Int)) ⟨h1, h2, fun hn => ?_⟩
 obtain ⟨ad, e, hc⟩ := h3 hn
 refine ⟨ad, e, fun j hj => ?_⟩
 rw [World.cell?_setCell_other (h := fun e => by have := hc j hj; rw [← e, hp] at this; exact hv _ (Option.some.inj this))]
 exact hc j hj
section
variable {W : World} {g g' : Nat} {t : TypeId} {b b' : Bool} {X X' : Option Addr} {n n' m m' : Nat} {x y x' y' : Value}
theorem put22 (ne : g ≠ g') (h : W.heap[g]? = some (.cells #[.bool b, .slice X n m] t (0, 0))) (h' : W.heap[g']? = some (.cells #[.bool b', .slice X' n' m'] t (0, 0))) :
  ((((W.setCell ⟨g, 0, none⟩ x).setCell ⟨g, 1, none⟩ y).setCell ⟨g', 0, none⟩ x').setCell ⟨g', 1, none⟩ y').heap[g]? = some (.cells #[x, y] t (0, 0)) ∧
  ((((W.setCell ⟨g, 0, none⟩ x).setCell ⟨g, 1, none⟩ y).setCell ⟨g', 0, none⟩ x').setCell ⟨g', 1, none⟩ y').heap[g']? = some (.cells #[x', y'] t (0, 0)) :=
 ⟨blk_far (p := ⟨g', 1, none⟩) (blk_far (p := ⟨g', 0, none⟩) (blk_put (blk_put h 0 x rfl) 1 y rfl) ne _) ne _, blk_put (blk_put (blk_far (p := ⟨g, 1, none⟩) (blk_far (p := ⟨g, 0, none⟩) h' ne.symm _) ne.symm _) 0 x' rfl) 1 y' rfl⟩
theorem keep2 {a : Addr} {v : Value} (h : W.cell? a = some v) (n : a.block ≠ g) : ((W.setCell ⟨g, 0, none⟩ x).setCell ⟨g, 1, none⟩ y).drew.cell? a = some v :=
 (cell_far (p := ⟨g, 1, none⟩) n y).trans ((cell_far (p := ⟨g, 0, none⟩) n x).trans h)
theorem C_set2 {A : Option Addr} {k : Nat} {xs : List Int} (hC : Kd.C (Kd.int .i64) W A k xs) (h : W.heap[g]? = some (.cells #[.bool b, .slice X n m] t (0, 0))) : Kd.C (Kd.int .i64) ((W.setCell ⟨g, 0, none⟩ x).setCell ⟨g, 1, none⟩ y) A k xs :=
 C_set (C_set hC ((blk_cell h 0).trans rfl) (fun _ e => by cases e) _) ((blk_cell (blk_put h 0 x rfl) 1).trans rfl) (fun _ e => by cases e) _
theorem C_set4 {A : Option Addr} {k : Nat} {xs : List Int} (hC : Kd.C (Kd.int .i64) W A k xs) (ne : g ≠ g') (h : W.heap[g]? = some (.cells #[.bool b, .slice X n m] t (0, 0))) (h' : W.heap[g']? = some (.cells #[.bool b', .slice X' n' m'] t (0, 0))) :
  Kd.C (Kd.int .i64) ((((W.setCell ⟨g, 0, none⟩ x).setCell ⟨g, 1, none⟩ y).setCell ⟨g', 0, none⟩ x').setCell ⟨g', 1, none⟩ y') A k xs :=
 C_set2 (C_set2 hC h) (blk_far (p := ⟨g, 1, none⟩) (blk_far (p := ⟨g, 0, none⟩) h' ne.symm _) ne.symm _)
end
end Go.Proofs.YtihbebbabjklkaaGreatDoor.PA
