import Derived.Test.YtinpcbjjnlpblaaGreatDoorAG1
import Derived.Test.YtinpcbjjnlpblaaGreatDoorAD
import Derived.RangeFuncNested
import Derived.RangeFuncBound
import Derived.RangeFuncCalls
import Derived.RangeFuncLeaves
import Derived.Shelf.Abstract
import Derived.Shelf.RegionOpen
import Derived.WalkKit
import Derived.OwnWalkIn
import Derived.TacticsInMore
import Derived.LoopNIn
import Derived.LoopIn
import Derived.Test.YtinpcbjjnlpblaaGreatDoorProg
import Derived.Test.YtinpcbjjnlpblaaGreatDoorAW
import Derived.Lib.AtoiErrMem
import Derived.Lib.Hide
import Derived.Shelf.SlIter.Collect
import Derived.Shelf.SlIterI.Collect
import Derived.LoopN
set_option maxHeartbeats 8000000
set_option maxRecDepth 100000
set_option linter.unusedVariables false
namespace Go.Proofs.YtinpcbjjnlpblaaGreatDoor.PA
set_option linter.unusedVariables false
open Go.RowKit Go.Proofs.WWords Go.Proofs.WLast Go.Proofs.WMore
attribute [local go_sem] max2_int min2_int max_two min_two max_three min_three max_four min_four
set_option linter.unusedSimpArgs false
theorem bICheck.calls (a0 : ByteArray) (r : Int) (w : World) (h : bICheck.f a0 = some r) :
  Calls Tryz.prog 67 #[.string a0] w fun e w' => e = .returned (.int .i64 r) ∧ Below w.heap.size w w' := by
 have HB := Z0.mk (Below.refl w.heap.size w)
 have H := h
 clear h
 unfold bICheck.f at H
 obtain ⟨t108, A2, H⟩ := bnd H
 by_cases c3 : t108 = true
 ·subst c3
  have H1 : ((bIdigits.f a0).bind fun t109 => (if t109 > 4096 then (some 10) else (some 0))) = some r := by rw [if_pos rfl] at H; exact H
  clear H
  have H := H1
  clear H1
  obtain ⟨t109, A4, H⟩ := bnd H
  rcases jg H with ⟨-, c5b0, H⟩ | ⟨-, c5b0, H⟩
  ·obtain rfl := Option.some.inj H
   go_enter Tryz.func67, Tryz.ntmps67
   go_wp2_with (first | ((with_reducible refine gc_ 110 rfl ?_); refine goB (some 5) Tryz.func110 #[.string a0] bq (bIcanonical.calls a0 true _ A2.out) ?_; clear HB; intro w6 HB) | ((with_reducible refine gc_ 111 rfl ?_); refine goD (some 9) Tryz.func111 #[.string a0] (bIdigits.calls a0 t109 _ A4.out) ?_; intro nd))
   go_ret
   exact finE
  obtain rfl := Option.some.inj H
  go_enter Tryz.func67, Tryz.ntmps67
  go_wp2_with (first | ((with_reducible refine gc_ 110 rfl ?_); refine goB (some 5) Tryz.func110 #[.string a0] bq (bIcanonical.calls a0 true _ A2.out) ?_; clear HB; intro w7 HB) | ((with_reducible refine gc_ 111 rfl ?_); refine goD (some 9) Tryz.func111 #[.string a0] (bIdigits.calls a0 t109 _ A4.out) ?_; intro nd))
  go_ret
  exact finE
 replace c3 := Bool.eq_false_iff.mpr c3
 subst c3
 have H1 : (some 3) = some r := by rw [if_neg (show ¬ (false = true) by decide)] at H; exact H
 clear H
 have H := H1
 clear H1
 obtain rfl := Option.some.inj H
 go_enter Tryz.func67, Tryz.ntmps67
 go_wp2_with (first | ((with_reducible refine gc_ 110 rfl ?_); refine goB (some 5) Tryz.func110 #[.string a0] bq (bIcanonical.calls a0 false _ A2.out) ?_; clear HB; intro w8 HB))
 go_ret
 exact finE
theorem bItrim.calls (k : Nat) (P0_ : Nat → Prop) (u9000_ : Value) (l0 : List Int) (r : List Int) (w0 w : World) (hB : Below w0.heap.size w0 w) (ho0 : Kd.R (Kd.int .i64) 3 w w0.heap.size P0_ u9000_ l0) (h : bItrim.f k l0 = some r) :
  Calls Tryz.prog 107 #[u9000_] w fun e w' => ∃ v0_ : Value, e = .returned (v0_) ∧ Kd.R (Kd.int .i64) 3 w' w0.heap.size (fun k_ => (P0_ k_ ∨ w.heap.size ≤ k_)) v0_ r ∧ Below w0.heap.size w0 w' ∧ Kept w w' (fun k_ => P0_ k_) := by
 have HO0 := Z0.mk (show Kd.R (Kd.int .i64) 3 w w0.heap.size (fun k_ => (P0_ k_ ∨ w.heap.size ≤ k_)) u9000_ l0 from Kd.R_mono ho0 (fun k_ hk => (.inl hk)))
 have HK := Z0.mk (Kept.refl w (fun k_ => P0_ k_))
 have HW0 := Z0.mk hB.size
 have HB := Z0.mk hB
 clear hB
 have H := h
 clear h
 unfold bItrim.f at H
 have H' := Z0.mk H
 clear H
 go_enter Tryz.func107, Tryz.ntmps107
 go_wp2
 go_loopg [0] k (fun kq v0 w' => ∃ (x0_1 : List Int), Z0 (bItrim.l0 kq x0_1 = some r) ∧ Z0 (kq ≤ k) ∧ Z0 (Kd.R (Kd.int .i64) 3 w' w0.heap.size (fun k_ => (P0_ k_ ∨ w.heap.size ≤ k_)) v0 x0_1) ∧ Z0 (Kept w w' (fun k_ => P0_ k_)) ∧ Z0 (Below w0.heap.size w0 w'))
 case atStart => exact ⟨(l0), H', ⟨Nat.le_refl _⟩, ⟨rq HO0⟩, ⟨kqs⟩, ⟨bqs⟩⟩
 case round =>
  clear H'
  try clear c1
  obtain ⟨x0_1, HA, HK1, HO_0, HK, HB⟩ := hrel
  cases gk with
  | zero => exact absurd HA.out (by simp [bItrim.l0])
  | succ k1 =>
   have H := HA.out
   clear HA
   simp only [bItrim.l0] at H
   rcases jg H with ⟨c2, c2b0, H⟩ | ⟨c2, c2b0, H⟩
   ·have c2b1 : decide (0 < x0_1.length) = true := decide_eq_true (by omega)
    clear c2
    obtain ⟨ji3, hji3⟩ : ∃ j_ : Int, (wrap64 ((x0_1.length : Int) - 1)) = j_ := ⟨_, rfl⟩
    replace H : (if 0 ≤ (ji3) then (if (ji3) < (x0_1.length : Int) then (if (rd x0_1 (ji3)) = 0 then (if (ji3) ≤ (x0_1.length : Int) then (bItrim.l0 k1 (x0_1.take ((ji3) : Int).toNat)) else (none)) else (some x0_1)) else (none)) else (none)) = some r := by first | (rw [hji3] at H; exact H) | (simp only [hji3] at H ⊢; exact H)
    have hji3w : (IntKind.i64.wrap ((x0_1.length : Int) - 1)) = ji3 := (i64_w _).trans hji3
    obtain ⟨-, c4b0, H⟩ := gd H
    obtain ⟨-, c5b0, H⟩ := gd H
    rcases je H with ⟨-, c6b0, c6b1, H⟩ | ⟨c6, c6b0, c6b1, H⟩
    ·obtain ⟨-, c7b0, c7b1, H⟩ := gt H
     generalize hy112 : (x0_1.take ((ji3) : Int).toNat : List Int) = y112 at H
     have Ny112 := Z0.mk hy112.symm
     clear hy112
     have H' := Z0.mk H
     clear H
     obtain ⟨Ao8, co8, eo8⟩ := Kd.R_slice HO_0.out
     subst eo8
     obtain ⟨ad111, e111, hx111_0, p111, q111⟩ := atI (Kd.R_reads' HO_0.out).2.2 (ji3)
     cases e111
     have q9 : ((ji3) : Int) ≤ ((x0_1.length : Int) : Int) := od
     obtain ⟨i09, hi09, _, hsz9, _⟩ := info_parts info3
     have hcut9 := cut_to (P := Tryz.prog) 78 3 .i64 Tryz.underlying78 hi09 (some ad111) x0_1.length co8 (ji3) od q9 (Kd.R_reads' HO_0.out).2.1
     have hr9 := Kd.R_take (m := ((ji3) : Int).toNat) HO_0.out (by omega)
     have hy9 : y112.length = ((ji3) : Int).toNat := (by rw [Ny112.out, List.length_take]; omega)
     rw [← Ny112.out] at hr9
     rw [← hy9] at hr9 hcut9
     clear hy9 hi09 hsz9 HO_0
     have HO114 := Z0.mk hr9
     clear hr9
     replace q9 := eq_true q9
     go_wp2
     go_roundg k1
     case measure => have := HK1.out; omega
     case rel => exact ⟨(y112), H', ⟨by have := HK1.out; omega⟩, ⟨rq HO114⟩, ⟨kqs⟩, ⟨bqs⟩⟩
    obtain rfl := Option.some.inj H
    obtain ⟨Ao10, co10, eo10⟩ := Kd.R_slice HO_0.out
    subst eo10
    obtain ⟨ad111, e111, hx111_0, p111, q111⟩ := atI (Kd.R_reads' HO_0.out).2.2 (ji3)
    cases e111
    go_wp2
    go_ret
    exact ⟨_, by first | rfl | (simp [errW_none, errW_some] <;> rfl) | (simp only [← hji3]; first | rfl | (simp [errW_none, errW_some] <;> rfl)) | (simp [*, errW_none, errW_some] <;> rfl), rq HO_0, bqs, kqs⟩
   have c2b1 : decide (0 < x0_1.length) = false := decide_eq_false (by omega)
   clear c2
   obtain rfl := Option.some.inj H
   obtain ⟨Ao11, co11, eo11⟩ := Kd.R_slice HO_0.out
   subst eo11
   go_wp2
   go_ret
   exact ⟨_, fe, rq HO_0, bqs, kqs⟩
end Go.Proofs.YtinpcbjjnlpblaaGreatDoor.PA
namespace Go.Proofs.YtinpcbjjnlpblaaGreatDoor
set_option linter.unusedVariables false
open Go.RowKit Go.Shelf Go.Proofs.WWords
attribute [local go_sem] Oper.semAt_some
theorem bk_succ (zs : List Int) (k : Nat) (h : k < zs.length) : bk zs (k + 1) = bk zs k ++ [bkx zs k h] := by simp [bk, h]
theorem bk_length (zs : List Int) (k : Nat) (h : k ≤ zs.length) : (bk zs k).length = k := by
 induction k with
 | zero => rfl
 | succ k ih => rw [bk_succ zs k (by omega)]; simp [ih (by omega)]
theorem bk_mem {zs : List Int} {k : Nat} (h : k ≤ zs.length) (x : BkT zs) : x ∈ bk zs k ↔ (zs.length : Int) - k ≤ x.1.1 := by
 induction k with
 | zero => simp [bk]; have := x.2; omega
 | succ k ih =>
  rw [bk_succ zs k (by omega), List.mem_append, ih (by omega), List.mem_singleton]
  constructor
  ·rintro (h | h)
   ·omega
   rw [h]; simp only [bkx]; omega
  intro h
  by_cases e : (zs.length : Int) - k ≤ x.1.1
  ·exact .inl e
  right
  have h2 := x.2
  have h3 : x.1.1 = (zs.length : Int) - 1 - k := by omega
  apply Subtype.ext
  apply Prod.ext
  ·exact h3
  rw [h2.2.2, h3]; rfl
def enc2 {zs : List Int} (x : BkT zs) : Array Value := #[.int .i64 x.1.1, .int .i64 x.1.2]
def KB (n₀ Bs : Nat) (W W' : World) : Prop := Below n₀ W W' ∧ (Bs < W.heap.size → W'.heap[Bs]? = W.heap[Bs]?)
theorem KB.refl (n₀ Bs : Nat) (W : World) : KB n₀ Bs W W := ⟨Below.refl _ _, fun _ => rfl⟩
theorem KB.trans {n₀ Bs : Nat} {A B C : World} (h : KB n₀ Bs A B) (k : KB n₀ Bs B C) : KB n₀ Bs A C :=
 ⟨h.1.trans k.1, fun hb => (k.2 (Nat.lt_of_lt_of_le hb h.1.size)).trans (h.2 hb)⟩
theorem KB.setCell {n₀ Bs : Nat} {A W : World} (h : KB n₀ Bs A W) {p : Addr} (h0 : n₀ ≤ p.block) (h1 : p.block ≠ Bs) (v : Value) : KB n₀ Bs A (W.setCell p v) :=
 ⟨h.1.setCell h0 v, fun hb => (Below.heap_setCell W p v Bs (Ne.symm h1)).trans (h.2 hb)⟩
theorem KB.alloc {n₀ Bs : Nat} {A W : World} (h : KB n₀ Bs A W) (hn : n₀ ≤ W.heap.size) (o : Obj) : KB n₀ Bs A (W.alloc o) :=
 ⟨h.1.alloc hn o, fun hb => (Below.heap_alloc W o Bs (Nat.lt_of_lt_of_le hb h.1.size)).trans (h.2 hb)⟩
theorem KB.drew {n₀ Bs : Nat} {A W : World} (h : KB n₀ Bs A W) : KB n₀ Bs A W.drew := ⟨h.1.drew, h.2⟩
theorem KB.below {n₀ Bs : Nat} {A W W' : World} (h : KB n₀ Bs A W) (hb : Below W.heap.size W W') (hn : n₀ ≤ W.heap.size) : KB n₀ Bs A W' :=
 ⟨h.1.trans (hb.mono hn), fun h1 => (hb.block Bs (Nat.lt_of_lt_of_le h1 h.1.size)).trans (h.2 h1)⟩
theorem KB.grown {n₀ Bs : Nat} {A W W' : World} {row : Option Nat} (h : KB n₀ Bs A W) (hg : W.grownBy W' row) (hn : n₀ ≤ W.heap.size) (hr : ∀ k, row = some k → n₀ ≤ k ∧ k ≠ Bs) : KB n₀ Bs A W' :=
 ⟨h.1.grown hg hn (fun k e => (hr k e).1), fun h1 => (hg.block Bs (Nat.lt_of_lt_of_le h1 h.1.size) (fun e => (hr Bs e.symm).2 rfl)).trans (h.2 h1)⟩
theorem kb_t {n₀ Bs : Nat} {A B C : World} (h : KB n₀ Bs A B) (k : KB n₀ Bs B C) : KB n₀ Bs A C := h.trans k
theorem kb_b {n₀ Bs : Nat} {w : World} (hn : n₀ ≤ w.heap.size) (hs : Bs < w.heap.size) (W : World) (l : Nat) (o o' : Obj) (hl : w.heap.size ≤ l) (h : W.heap[l]? = some o) (h1 : o.isCells = false) (h2 : o.isWalk = false) : KB n₀ Bs W (W.putObj l o') :=
 ⟨belowK_b hn W l o o' hl h h1 h2, fun _ => World.putObj_heap_other (by omega)⟩
theorem back1_in (F : Fence) (n : Nat) (h7 : F.fn 132) (hro : F.round = none) (hn : 1 ≤ n) (l Bs n₀ : Nat) (A : Option Addr) (cap : Nat) (zs : List Int) (hm : zs.length ≤ 9223372036854775807) (J Jx : List (BkT zs) → World → Prop)
  (hY : ∀ pre x W, J pre W → pre.length < zs.length → YieldAt F (n - 1) Tryz.prog l (enc2 x) W fun e W' =>
   (e = .returned (.bool true) ∧ J (pre ++ [x]) W' ∧ KB n₀ Bs W W') ∨ (e = .returned (.bool false) ∧ Jx (pre ++ [x]) W'))
  (W : World) (hBs : Boxed W Bs 78 (.slice A zs.length cap)) (hc : ∀ W', Below n₀ W W' → Kd.C (Kd.int .i64) W' A zs.length zs) (h0 : J [] W) :
  CallsIn F n Tryz.prog 132 #[.func (.yield l) #[] #[], .pointer (some ⟨Bs, 0, none⟩)] W fun e W' => (∃ v, e = .returned v) ∧
   ((∃ ys, ys = bk zs zs.length ∧ J ys W') ∨ (∃ pre, (∃ k, k < zs.length ∧ pre = bk zs (k + 1)) ∧ Jx pre W')) := by
 have hBc := hBs.cell
 refine callsIn_of_wp Tryz.func132 rfl h7 ?_ hro
 simp only [Tryz.ntmps132, List.size_toArray, List.length_cons, List.length_nil, Nat.reduceAdd, Nat.reduceSub, Array.replicate_succ, Array.replicate_zero, List.push_toArray, List.append_toArray, List.nil_append, List.cons_append]
 gi_wp2
 gi_loopw [3] (fun i wr => ∃ k : Nat, k ≤ zs.length ∧ i = .int .i64 ((zs.length : Int) - 1 - k) ∧ J (bk zs k) wr ∧ KB n₀ Bs W wr)
  (fun i _ => ((Go.RowKit.intOf i) + 1).toNat)
 case atStart => exact ⟨0, Nat.zero_le _, by simp, h0, KB.refl _ _ _⟩
 case round =>
  obtain ⟨k, hk, rfl, hJs, hnx⟩ := hrel
  have hBs' : wr.cell? ⟨Bs, 0, none⟩ = some (.slice A zs.length cap) := (show Boxed wr Bs 78 _ from (hnx.2 hBs.lt).trans hBs).cell
  by_cases hlt : k < zs.length
  ·obtain ⟨ad, rfl, hcx⟩ := Kd.at_int (hc wr hnx.1) ((zs.length : Int) - 1 - k) (by omega) (by omega)
   obtain ⟨fn, tmps, assign, body, hy, hR⟩ := hY _ (bkx zs k hlt) wr hJs (by rw [bk_length _ _ hk]; exact hlt)
   dsimp only [enc2, bkx] at hy
   have hcy : wr.cell? (ad.add (zs.length - 1 - k)) = some (.int .i64 (rd zs ((zs.length : Int) - 1 - k))) := by
    have : ((zs.length : Int) - 1 - k).toNat = zs.length - 1 - k := by omega
    rw [← this]; exact hcx
   clear hcx
   gi_wp2
   refine hR.mono ?_
   rintro e W3 (⟨rfl, hJ3, hk3⟩ | ⟨rfl, hJx3⟩)
   ·gi_wp2
    go_roundw
    case rel => exact ⟨k + 1, by omega, by go_num, by rw [bk_succ _ _ hlt]; exact hJ3, hnx.trans hk3⟩
    case measure => simp [Go.RowKit.intOf]; omega
   gi_wp2
   refine bodyPost_ret (results_none rfl _ _ _) rfl ?_
   exact ⟨⟨_, rfl⟩, .inr ⟨_, ⟨k, hlt, rfl⟩, by rw [bk_succ _ _ hlt]; exact hJx3⟩⟩
  obtain rfl : k = zs.length := by omega
  gi_wp2
  go_end0
  exact ⟨⟨_, rfl⟩, .inl ⟨_, rfl, hJs⟩⟩
theorem back_stops (F : Fence) (n : Nat) (h7 : F.fn 132) (hro : F.round = none) (hn : 1 ≤ n) (Bs n₀ : Nat) (A : Option Addr) (cap : Nat) (zs : List Int) (hm : zs.length ≤ 9223372036854775807) (w : World)
  (hBs : Boxed w Bs 78 (.slice A zs.length cap)) (hn₀ : n₀ ≤ w.heap.size) (hc : ∀ W', Below n₀ w W' → Kd.C (Kd.int .i64) W' A zs.length zs) :
  SeqStopsK F n Tryz.prog 132 #[.pointer (some ⟨Bs, 0, none⟩)] enc2 (KB n₀ Bs) (fun ys => ys = bk zs zs.length) (fun pre => ∃ k, k < zs.length ∧ pre = bk zs (k + 1)) zs.length w := fun l J Jx W hW _ _ hY h0 =>
 back1_in F n h7 hro hn l Bs n₀ A cap zs hm J Jx hY W ((hW.block Bs hBs.lt).trans hBs) (fun W' hb => hc W' ((hW.mono hn₀).trans hb)) h0
theorem back_in (F : Fence) (n : Nat) (h5 : F.fn 97) (hro : F.round = none) (a : Option Addr) (len cap : Nat) (w : World) :
  CallsIn F n Tryz.prog 97 #[.slice a len cap] w fun e w' => e = .returned (.func (.func 132) #[] #[.pointer (some ⟨w.heap.size, 0, none⟩)]) ∧ w' = w.alloc (.cells #[.slice a len cap] 78) := by
 refine callsIn_of_wp Tryz.func97 rfl h5 ?_ hro
 simp only [Tryz.ntmps97, List.size_toArray, List.length_cons, List.length_nil, Nat.reduceAdd, Nat.reduceSub, Array.replicate_succ, Array.replicate_zero, List.push_toArray, List.append_toArray, List.nil_append, List.cons_append]
 gi_wp2
 go_ret
 exact ⟨rfl, rfl⟩
theorem gk_length (ds : List Int) (k : Nat) : (gk ds k).length = k := by
 induction k with
 | zero => rfl
 | succ k ih => simp [gk, ih]
theorem AllD.digs {l : List UInt8} (h : AllD l) : Sv.Digs 10 (l.reverse.map Sv.chd) := by
 intro d hd
 obtain ⟨c, hc, rfl⟩ := List.mem_map.1 hd
 have := h c (by simpa using hc)
 unfold Sv.chd
 omega
theorem valN_cons (c : UInt8) (t : List UInt8) : Sv.valN (c :: t) = Sv.valN t + 10 ^ t.length * Sv.chd c := by
 unfold Sv.valN
 rw [List.reverse_cons, List.map_append, Sv.vl_append]
 simp [Sv.vl]
theorem valN_nonneg {l : List UInt8} (h : AllD l) : 0 ≤ Sv.valN l := Sv.vl_nonneg (by decide) h.digs
theorem decFrom_valN : ∀ (l : List UInt8) (acc : Nat), AllD l → Lib.decFrom acc l = some (acc * 10 ^ l.length + (Sv.valN l).toNat) := by
 intro l
 induction l with
 | nil => intro acc _; simp [Lib.decFrom, Sv.valN, Sv.vl]
 | cons c t ih =>
  intro acc h
  have hc := h c (by simp)
  have ht : AllD t := fun x hx => h x (by simp [hx])
  have hd : Lib.digitVal c = some (c.toNat - 48) := by
   unfold Lib.digitVal
   simp [hc.1, hc.2]
  rw [Lib.decFrom, hd]
  simp only
  rw [ih _ ht, valN_cons]
  have h0 := valN_nonneg ht
  have e : Sv.chd c = ((c.toNat - 48 : Nat) : Int) := by unfold Sv.chd; omega
  obtain ⟨v, hv⟩ : ∃ v : Nat, Sv.valN t = v := ⟨(Sv.valN t).toNat, by omega⟩
  rw [e, hv]
  congr 1
  have e2 : ((v : Int) + 10 ^ t.length * ((c.toNat - 48 : Nat) : Int)).toNat = v + 10 ^ t.length * (c.toNat - 48) := by
   have : ((v : Int) + 10 ^ t.length * ((c.toNat - 48 : Nat) : Int)) = ((v + 10 ^ t.length * (c.toNat - 48) : Nat) : Int) := by push_cast; rfl
   rw [this, Int.toNat_natCast]
  rw [e2, List.length_cons, Nat.pow_succ, Int.toNat_natCast]
  generalize 10 ^ t.length = p
  generalize c.toNat - 48 = q
  grind
theorem atoi_valN {l : List UInt8} (h : AllD l) (hne : l ≠ []) : Lib.atoi l = some (Sv.valN l) := by
 cases l with
 | nil => exact absurd rfl hne
 | cons c t =>
  have hc := h c (by simp)
  have h45 : (c == 45) = false := by
   rw [beq_eq_false_iff_ne]; rintro rfl; have := hc.1; simp at this
  have h43 : (c == 43) = false := by
   rw [beq_eq_false_iff_ne]; rintro rfl; have := hc.1; simp at this
  have h0 := valN_nonneg h
  rw [Lib.atoi, h45, h43]
  simp only [Bool.false_eq_true, if_false]
  rw [Lib.decNat]
  simp only [List.isEmpty_cons, Bool.false_eq_true, if_false]
  rw [decFrom_valN _ _ h]
  simp
  omega
theorem sub_valN (l : List UInt8) (k : Nat) (h : 9 * k < l.length) : Sv.valN ((l.take (l.length - 9 * k)).drop (l.length - 9 * k - 9)) = Sv.vl 10 (((l.reverse.map Sv.chd).drop (9 * k)).take 9) := by
 unfold Sv.valN
 rw [← List.map_drop, ← List.map_take]
 congr 2
 rw [List.drop_reverse, List.take_reverse, List.length_take]
 congr 1
 congr 1
 omega
theorem sub_alld {l : List UInt8} (h : AllD l) (i j : Nat) : AllD ((l.take j).drop i) := fun c hc => h c (List.mem_of_mem_take (List.mem_of_mem_drop hc))
theorem chk1_in (n : Nat) (hn : 1 ≤ n) (l Bs n₀ : Nat) (a0 : ByteArray) (m : Nat) (hm1 : a0.size ≤ 9 * m) (hm2 : 9 * m < a0.size + 9) (hdig : AllD a0.data.toList) (hm : a0.size ≤ 4611686018427387904) (J Jx : List Int → World → Prop) (W : World) (hn₀ : n₀ ≤ W.heap.size) (hJ : AbidesFrom W.heap.size J)
    (hY : ∀ pre x W, J pre W → pre.length < m → YieldAt Fence.wide (n - 1) Tryz.prog l #[.int .i64 x] W fun e W' =>
      (e = .returned (.bool true) ∧ J (pre ++ [x]) W' ∧ KB n₀ Bs W W') ∨ (e = .returned (.bool false) ∧ Jx (pre ++ [x]) W'))
    (hBs : Boxed W Bs 9 (.string a0)) (h0 : J [] W) :
    CallsIn Fence.wide n Tryz.prog 152 #[.func (.yield l) #[] #[], .pointer (some ⟨Bs, 0, none⟩)] W fun e W' => (∃ v, e = .returned v) ∧
      ((∃ ys, ys = gk (dl a0) m ∧ J ys W') ∨ (∃ pre, (∃ k, k < m ∧ pre = gk (dl a0) (k + 1)) ∧ Jx pre W')) := by
 have hBc := hBs.cell
 have hf194 : Fence.wide.fn 153 := trivial
 refine callsIn_of_wp Tryz.func152 rfl trivial ?_ rfl
 simp only [Tryz.ntmps152, List.size_toArray, List.length_cons, List.length_nil, Nat.reduceAdd, Nat.reduceSub, Array.replicate_succ, Array.replicate_zero, List.push_toArray, List.append_toArray, List.nil_append, List.cons_append]
 gi_wp2
 gi_loopw [3] (fun i wr => ∃ k : Nat, k ≤ m ∧ i = .int .i64 ((a0.size : Int) - 9 * k) ∧ J (gk (dl a0) k) wr ∧ KB n₀ Bs W wr)
  (fun i _ => match i with | .int _ z => (z + 9).toNat | _ => 0)
 case atStart => exact ⟨0, Nat.zero_le _, by simp, h0, KB.refl _ _ _⟩
 case round =>
  obtain ⟨k, hk, rfl, hJs, hnx⟩ := hrel
  have hBs' : wr.cell? ⟨Bs, 0, none⟩ = some (.string a0) := (show Boxed wr Bs 9 _ from (hnx.2 hBs.lt).trans hBs).cell
  by_cases hlt : k < m
  ·obtain ⟨hi, hhi⟩ : ∃ hi : Nat, (a0.size : Int) - 9 * k = hi := ⟨a0.size - 9 * k, by omega⟩
   rw [hhi]
   have hpos : 0 < hi := by omega
   have hle : hi ≤ a0.size := by omega
   obtain ⟨lo, hlo⟩ : ∃ lo : Nat, lo = hi - 9 := ⟨_, rfl⟩
   have hmx : max (0 : Int) ((hi : Int) - 9) = (lo : Int) := by omega
   have hlh : lo ≤ hi := by omega
   obtain ⟨z, hz⟩ : ∃ z, Sv.vl 10 (((dl a0).drop (9 * k)).take 9) = z := ⟨_, rfl⟩
   have hlen : a0.data.toList.length = a0.size := rfl
   have hex : (a0.extract lo hi).data.toList = (a0.data.toList.take hi).drop lo := by simp [ByteArray.data_extract, Array.toList_extract, List.extract_eq_take_drop, List.drop_take]
   have hsz : (a0.extract lo hi).size ≤ 18 := by
    have e1 : (a0.extract lo hi).size = (a0.extract lo hi).data.toList.length := rfl
    rw [e1, hex, List.length_drop, List.length_take]
    omega
   have hat : Lib.atoi (a0.extract lo hi).data.toList = some z := by
    have e1 : hi = a0.data.toList.length - 9 * k := by omega
    have e2 : lo = a0.data.toList.length - 9 * k - 9 := by omega
    rw [hex, atoi_valN (sub_alld hdig _ _) (by intro e; have := congrArg List.length e; rw [List.length_drop, List.length_take, List.length_nil] at this; omega), e1, e2, sub_valN _ _ (by omega)]; rw [← hz]; rfl
   have hgk : gk (dl a0) (k + 1) = gk (dl a0) k ++ [z] := by rw [gk, hz]
   have HE := Lib.hid hhi
   have HG := Lib.hid hgk
   clear hhi hlo hex hz hgk hlen
   gi_wp2_with (gi_at_call 153; refine (callsIn_wide.2 (Tryz.strconv_Atoi (a0.extract lo hi) z hsz hat wr)).mono ?_; rintro e W2 ⟨rfl, t', ht⟩
                have hb2 : Below wr.heap.size wr W2 := by rw [ht]; exact Lib.bytesWorld_below wr 5 t'
                clear ht
                have hJ2 := hJ _ wr W2 none hJs ⟨hb2.os, hb2.tape, hb2.output, hb2.size, fun j hj _ => hb2.block j hj⟩ (fun r e => by cases e)
                have hn2 := hnx.below hb2 (Nat.le_trans hn₀ hnx.1.size)
                obtain ⟨fn, tmps, assign, body, hy, hR⟩ := hY _ z W2 hJ2 (by rw [gk_length]; exact hlt))
   refine hR.mono ?_
   rintro e W3 (⟨rfl, hJ3, hk3⟩ | ⟨rfl, hJx3⟩)
   ·gi_wp2
    go_roundw
    case rel => exact ⟨k + 1, by omega, by have := HE.out; go_num, by rw [HG.out]; exact hJ3, hn2.trans hk3⟩
    case measure => dsimp only; omega
   gi_wp2
   refine bodyPost_ret (results_none rfl _ _ _) rfl ?_
   exact ⟨⟨_, rfl⟩, .inr ⟨_, ⟨k, hlt, rfl⟩, by rw [HG.out]; exact hJx3⟩⟩
  obtain rfl : k = m := by omega
  have hnp : ¬ (0 : Int) < (a0.size : Int) - 9 * k := by omega
  gi_wp2
  go_end0
  exact ⟨⟨_, rfl⟩, .inl (by first | exact ⟨_, rfl, hJs⟩ | exact hJs)⟩
theorem chk_stops (n : Nat) (hn : 1 ≤ n) (Bs n₀ : Nat) (a0 : ByteArray) (m : Nat) (hm1 : a0.size ≤ 9 * m) (hm2 : 9 * m < a0.size + 9) (hdig : AllD a0.data.toList) (hm : a0.size ≤ 4611686018427387904) (w : World) (hn₀ : n₀ ≤ w.heap.size) (hBs : Boxed w Bs 9 (.string a0)) :
    SeqStopsK Fence.wide n Tryz.prog 152 #[.pointer (some ⟨Bs, 0, none⟩)] (fun x : Int => #[.int .i64 x]) (KB n₀ Bs) (fun ys => ys = gk (dl a0) m) (fun pre => ∃ k, k < m ∧ pre = gk (dl a0) (k + 1)) m w := fun l J Jx W hW hJ _ hY h0 =>
  chk1_in n hn l Bs n₀ a0 m hm1 hm2 hdig hm J Jx W (Nat.le_trans hn₀ hW.size) hJ hY ((hW.block Bs hBs.lt).trans hBs) h0
def ApI (w : World) (pre : List Int) (W : World) : Prop :=
  ∃ v, W.heap[w.heap.size]? = some (.cells #[v] 78 (0, 0)) ∧ W.ownsRow w.heap.size 3 1 v pre.length (pre.map encZ)
theorem ApI.own (w : World) : Own (ApI w) := fun s A B row hs hg hr => by
  obtain ⟨v, h1, h2⟩ := hs
  refine ⟨v, ?_, ?_⟩
  · refine (hg.block _ (Array.getElem?_eq_some_iff.1 h1).1 (fun e => ?_)).trans h1
    obtain ⟨o, ho, hc⟩ := hr _ e.symm
    rw [h1] at ho
    cases ho
    cases hc
  · cases row with
    | none =>
      refine h2.kept hg ?_
      cases hv : v.ownBlock with
      | none => exact .inl rfl
      | some k => exact .inr (by simp)
    | some r =>
      obtain ⟨o, ho, hc⟩ := hr r rfl
      exact h2.kept hg (ownsRow_ne_a h2 ho (fun cur e => by rw [e] at hc; cases hc))
theorem append_in (n : Nat) (hn : 3 ≤ n) (Bs : Nat) (a0 : ByteArray) (m : Nat) (hm1 : a0.size ≤ 9 * m) (hm2 : 9 * m < a0.size + 9) (hdig : AllD a0.data.toList) (hm : a0.size ≤ 4294967296) (w : World) (hBs : Boxed w Bs 9 (.string a0)) :
    CallsIn Fence.wide n Tryz.prog 151 #[.slice none 0 0, .func (.func 152) #[] #[.pointer (some ⟨Bs, 0, none⟩)]] w fun e w' => ∃ v, e = .returned v ∧ w'.ownsRow w.heap.size 3 1 v m ((gk (dl a0) m).map encZ) ∧ Below w.heap.size w w' := by
 have hBl := hBs.lt
 have h1' : 1 ≤ n := by omega
 refine callsIn_of_wp_marks Tryz.func151 rfl trivial ?_ rfl
 simp only [Tryz.ntmps151, List.size_toArray, List.length_cons, List.length_nil, Nat.reduceAdd, Nat.reduceSub, Array.replicate_succ, Array.replicate_zero, List.push_toArray, List.append_toArray, List.nil_append, List.cons_append]
 gi_wp2
 obtain ⟨W0, hW0⟩ : ∃ W0, w.alloc (.cells #[.slice none 0 0] 78) = W0 := ⟨_, rfl⟩
 have hB0 : Below w.heap.size w W0 := by rw [← hW0]; exact (Below.refl _ w).alloc (Nat.le_refl _) _
 have hs0 : W0.heap.size = w.heap.size + 1 := by rw [← hW0]; simp
 have hb0 : W0.heap[w.heap.size]? = some (.cells #[.slice none 0 0] 78 (0, 0)) := by rw [← hW0]; exact Boxed.new _ _ _
 have hBs0 : Boxed W0 Bs 9 (.string a0) := (hB0.block Bs hBl).trans hBs
 rw [hW0]
 refine wpIn_rangeFunc_ownF rfl h1' (gf := 152) (lb := #[.pointer (some ⟨Bs, 0, none⟩)]) rfl trivial (enters_of Tryz.func152 (by kernel_rfl) rfl)
  (chk_stops (n - 1) (by omega) Bs w.heap.size a0 m hm1 hm2 hdig (by omega) W0 (by omega) hBs0) kb_t (kb_b (by omega) (by omega)) (Below.refl _ _) (fun _ => rfl)
  (fun pre W => ApI w pre W ∧ Below w.heap.size w W) (fun c pre W => False)
  (OwnFrom.and (Own.from (ApI.own w) _) (ownFrom_below (Nat.le_refl _) (by omega)))
  (fun c s A B row hs hg hr => hs) ⟨⟨_, hb0, World.ownsRow_nil _ _ _ _⟩, hB0⟩
  ?act1 ?assign ?body ?done ?stop
 case assign =>
  intro l x W K hK
  gi_wp2
  exact hK
 case body =>
  rintro l pre x W ⟨⟨v, hb, hr⟩, hB⟩ hlen
  obtain ⟨hbc, hbf⟩ := cell_of_box_a hb
  have hbl := (Array.getElem?_eq_some_iff.1 hb).1
  have hbk : some w.heap.size ≠ v.ownBlock := fun e => by
   rcases ownsRow_ne_a hr hb (fun cur e => by cases e) with h | h
   ·rw [h] at e; cases e
   exact h e.symm
  obtain ⟨i0, hi, hz0, hz1, hz2⟩ := info_parts (show (Tryz.prog.info? 3).map (fun i => (i.zero, i.size, i.bytes)) = some (some (.int .i64 0), 1, 8) by kernel_rfl)
  gi_wp2_with (first
    | (gi_at_builtin; refine wpListIn_append_own _ rfl _ _ 78 rfl w.heap.size 3 i0 (.int .i64 0) 1 8 Tryz.underlying78 hi hz0 hz1 hz2 rfl (by decide) v pre.length (pre.map encZ) rfl (hr.alloc _) ⟨W.heap.size, 0, none⟩ 1 1 [encZ x] rfl rfl (cell_one_new _ _ _) (by simp [Value.oneCell', encZ]) (by simp only [maxLen]; omega) (by omega) (by have := hB.size; simp; omega) ?_; intro v' w3 hown' hg3 hnil3
       have hb3 : w3.heap[w.heap.size]? = some (.cells #[v] 78 (0, 0)) := (hg3.block _ (by simp; omega) hbk).trans ((Below.heap_alloc _ _ _ hbl).trans hb)
       obtain ⟨hc3, hf3⟩ := cell_of_box_a hb3
       obtain ⟨g', cap', rfl⟩ : ∃ g' cap', v' = .slice (some ⟨g', 0, none⟩) (pre.length + 1) cap' := by
         rcases hown'.2 with ⟨_, h0⟩ | ⟨g', cap', cur', h', _⟩
         · omega
         · exact ⟨g', cap', h'⟩)
    | gi_in)
  have hkr : ∀ k, v.ownBlock = some k → w.heap.size ≤ k ∧ k ≠ Bs := fun k e => ⟨(hr.lt k e).1, fun e' => by have := (hr.lt k e).1; omega⟩
  have hgA : W.grownBy (W.alloc (.cells #[encZ x] 3)) none := World.grownBy_alloc W _ none
  have hb3k : KB w.heap.size Bs W w3 := ((KB.refl _ _ W).alloc hB.size _).grown hg3 (by have := hB.size; simp; omega) hkr
  have hB3 : Below w.heap.size w w3 := hB.trans hb3k.1
  refine ⟨((KeepsOthers.alloc W _).trans (KeepsOthers.of_grownBy hg3 (fun j o hj ho => ?_))).trans (KeepsOthers.setCell _ _ _), hb3k.setCell (p := ⟨w.heap.size, 0, none⟩) (Nat.le_refl _) (by simp; omega) _, ⟨_, heap_setCell_box_a _ hb3, ?_⟩, hB3.setCell (p := ⟨w.heap.size, 0, none⟩) (Nat.le_refl _) _⟩
  ·rcases (hr.alloc (.cells #[encZ x] 3)).2 with ⟨e, _⟩ | ⟨g, cap, cur, e, _, hgb, _⟩
   ·rw [e] at hj; cases hj
   rw [e] at hj
   have : g = j := by simpa [Value.ownBlock] using hj
   subst this
   rw [hgb] at ho
   cases ho
   rfl
  have h5 := hown'.kept (grownBy_setCell0_a w3 w.heap.size (.slice (some ⟨g', 0, none⟩) (pre.length + 1) cap')) (by
     refine ownsRow_ne_a hown' hb3 (fun cur e => by cases e))
  simpa using h5
 case done =>
  rintro D ys W hD rfl ⟨⟨v, hb, hr⟩, hB⟩ hK
  obtain ⟨hbc, hbf⟩ := cell_of_box_a hb
  gi_wp2
  refine ⟨by simp, .inl ⟨_, _, rfl, run_takeDeferred hK, ?_⟩⟩
  have hg5 := grownBy_putObj' W D (.deferred none)
  refine ⟨v, ?_, v, rfl, ?_, hB.trans (belowK_b (w := w) (Nat.le_refl _) W D _ _ (by omega) hK rfl rfl)⟩
  ·simp [results, Tryz.f151, go_sem]
  have h5 := hr.kept hg5 (ownsRow_ne_a hr hK (fun cur e => by cases e))
  rw [gk_length] at h5
  exact h5
 case stop =>
  rintro D c pre W hD hp hf hK
  exact hf.elim
set_option linter.unusedVariables false
open Go.RowKit Go.Shelf Go.Proofs.WWords Go.Proofs.WLast Go.Proofs.WMore PA
set_option linter.unusedSimpArgs false
theorem chunks_calls (a0 : ByteArray) (w : World) :
    Calls Tryz.prog 130 #[.string a0] w fun e w' => ∃ g, e = .returned (.func (.func 152) #[] #[.pointer (some ⟨g, 0, none⟩)]) ∧ Boxed w' g 9 (.string a0) ∧ Below w.heap.size w w' := by
 go_enter Tryz.func130, Tryz.ntmps130
 go_wp2
 go_ret
 exact ⟨w.heap.size, rfl, Boxed.new _ _ _, (Below.refl _ w).alloc (Nat.le_refl _) _⟩
theorem slices_Collect_int.calls (a0 : ByteArray) (r : List Int) (g : Nat) (w : World) (hb : Boxed w g 9 (.string a0)) (h : slices_Collect_int.f a0 = some r) :
    Calls Tryz.prog 129 #[.func (.func 152) #[] #[.pointer (some ⟨g, 0, none⟩)]] w fun e w' => ∃ v0_ : Value, e = .returned (v0_) ∧ Kd.R (Kd.int .i64) 3 w' w.heap.size (fun _ => True) v0_ r ∧ Below w.heap.size w w' := by
 unfold slices_Collect_int.f at h
 split at h
 ·rename_i hc
  obtain rfl := Option.some.inj h
  clear h
  go_enter Tryz.func129, Tryz.ntmps129
  go_wp2_with ((with_reducible refine gc_ 151 rfl ?_); refine goesL_ (some 4) rfl rfl Tryz.func151 (by kernel_rfl) rfl #[.slice none 0 0, .func (.func 152) #[] #[.pointer (some ⟨g, 0, none⟩)]] rfl (by (try simp only [List.map_toArray, List.map_cons, List.map_nil]); first | done | rfl) ?_
               refine (callsIn_wide.1 (append_in 3 (by omega) g a0 ((a0.size + 8) / 9) (by omega) (by omega) hc.1 hc.2 w hb)).mono ?_
               rintro e w' ⟨v, rfl, hr, hB⟩; refine ⟨_, rfl, ?_⟩)
  go_ret
  refine ⟨_, rfl, Kd.R_of_own (enc := .int .i64) ?_ (fun _ _ => trivial), hB⟩
  rw [gk_length]
  exact hr
 cases h
theorem bIread.calls (k : Nat) (a0 : ByteArray) (r1 : Bool) (r2 : List Int) (w : World) (h : bIread.f k a0 = some (r1, r2)) :
    Calls Tryz.prog 95 #[.string a0] w fun e w' => ∃ v1_ : Value, e = .returned (.agg #[.bool r1, v1_]) ∧ Kd.R (Kd.int .i64) 3 w' w.heap.size (fun _ => True) v1_ r2 ∧ Below w.heap.size w w' := by
 have hu88 := Tryz.underlying80
 have HB := Z0.mk (Below.refl w.heap.size w)
 have H := h
 clear h
 unfold bIread.f at H
 obtain ⟨⟨t116, t117⟩, A2, H⟩ := bnd H
 try dsimp only at H
 obtain ⟨t118, A3, H⟩ := bnd H
 obtain ⟨t121, A4, H⟩ := bnd H
 simp only [Option.some.injEq, Prod.mk.injEq] at H
 obtain ⟨rfl, rfl⟩ := H
 go_enter Tryz.func95, Tryz.ntmps95
 go_wp2_with (first | ((with_reducible refine gd_ 2 rfl ?_); refine bxE 2 #[.bool false, .slice none 0 0] 80 ?_; intro gb115 hg w5 hbox hb; have BK115 := Z0.mk hbox; have GW115 := fE HB hg; have GE115 := fE HB hg; replace HB := fB HB hb; clear hb hbox hg) | ((with_reducible refine gc_ 128 rfl ?_); refine gL 7 Tryz.func128 (strings_CutPrefix.calls _ _ _ _ _ A2.out) ?_; rintro _ w6 ⟨rfl, hb⟩; refine ⟨_, rfl, ?_⟩; replace BK115 := fk BK115 hb; replace HB := fB HB hb; clear hb) | ((with_reducible refine gc_ 130 rfl ?_); refine goesL_ (some 12) rfl rfl Tryz.func130 (by kernel_rfl) rfl #[.string t116] rfl (by (try simp only [List.map_toArray, List.map_cons, List.map_nil]); first | done | rfl) ?_; (with_reducible refine (chunks_calls t116 _).mono ?_); rintro e w6b ⟨gq, rfl, hbq, hb⟩; refine ⟨_, rfl, ?_⟩; replace BK115 := fk BK115 hb; replace HB := fB HB hb; have HBQ := Z0.mk hbq; clear hb hbq) | ((with_reducible refine gc_ 129 rfl ?_); refine gL 13 Tryz.func129 (slices_Collect_int.calls _ _ _ _ HBQ.out A3.out) ?_; rintro _ w7 ⟨v119, rfl, ho0, hb⟩; refine ⟨_, rfl, ?_⟩; have HO120 := fN ho0; replace BK115 := fk BK115 hb; replace HB := fB HB hb; clear hb ho0; obtain ⟨Ao8, co8, eo8⟩ := Kd.R_slice HO120.out; subst eo8) | ((with_reducible refine gc_ 107 rfl ?_); refine gL 14 Tryz.func107 (bItrim.calls k (fun k_ => some k_ = (.slice Ao8 t118.length co8 : Value).ownBlock) (.slice Ao8 t118.length co8) t118 t121 w _ ?side1 ?side2 A4.out) ?_; (case side1 => repeat (first | (with_reducible first | exact HB.out | apply below_alloc | apply pw_below_drewN | apply below_drew1 | refine below_set ?_ GE115.out) | exact HB.out)); (case side2 => exact Kd.R_tight rfl HO120.out); rintro _ w9 ⟨v122, rfl, ho0, hb, hkp⟩; refine ⟨_, rfl, ?_⟩; have HO123 := Z0.mk (Kd.R_mono (ok' := fun k_ => True) ho0 (fun k_ hk_ => trivial)); replace BK115 := Z0.mk (blk_kept (hq BK115) hkp (fun hs_ => (fun e_ => (Kd.R_ne HO120.out BK115.out (by decide)) e_) hs_)); replace HB := Z0.mk (hb); clear HO120; clear hb hkp ho0; obtain ⟨Ao10, co10, eo10⟩ := Kd.R_slice HO123.out; subst eo10; obtain ⟨hcz11_0, hcz11_1, hfz11_0, hfz11_1⟩ := b2 BK115))
 refine bodyPost_ret (results_cell_row rfl _ _ gb115 80 #[.bool t117, .slice Ao10 t121.length co10] (0, 0) _ rfl (by (with_reducible repeat (first | refine blk_drewN ?_ _ | refine blk_drew ?_ | refine blk_alloc ?_ _)); refine blk_put (cs := #[.bool t117, .slice none 0 0]) ?_ 1 _ rfl; (with_reducible repeat (first | refine blk_drewN ?_ _ | refine blk_drew ?_ | refine blk_alloc ?_ _)); refine blk_put (cs := #[.bool false, .slice none 0 0]) ?_ 0 _ rfl; (with_reducible repeat (first | refine blk_drewN ?_ _ | refine blk_drew ?_ | refine blk_alloc ?_ _)); exact BK115.out) Tryz.underlying80 rfl (by kernel_rfl)) rfl ?_
 exact ⟨_, fe, by (with_reducible repeat (first | apply Kd.R_alloc | apply Kd.R_drewN | apply Kd.R_drew)); exact Kd.R_mono (Kd.R_far (p := ⟨gb115, 1, none⟩) (Kd.R_far (p := ⟨gb115, 0, none⟩) (Kd.R_types HO123.out BK115.out (by decide)) (fun _ hk => hk.2) (.bool t117)) (fun _ hk => hk.2) (.slice Ao10 t121.length co10)) (fun _ hk => trivial), bqs⟩
theorem at45_0 (x y : ByteArray) (w : World) : (Instr.index 110 (.agg #[.string x, .string y]) (.int .i64 0)).run Tryz.prog w = .ok (.string x) w := by kernel_rfl
theorem at45_1 (x y : ByteArray) (w : World) : (Instr.index 110 (.agg #[.string x, .string y]) (.int .i64 1)).run Tryz.prog w = .ok (.string y) w := by kernel_rfl
attribute [local go_sem] at45_0 at45_1
theorem bIpair.calls (k : Nat) (a0 : ByteArray) (a1 : ByteArray) (r1 : Bool) (r2 : List Int) (r3 : Bool) (r4 : List Int) (r5 : Int) (w : World) (h : bIpair.f k a0 a1 = some (r1, r2, r3, r4, r5)) :
  Calls Tryz.prog 54 #[.string a0, .string a1] w fun e w' => ∃ v1_ v3_ : Value, e = .returned (.tuple #[.agg #[.bool r1, v1_], .agg #[.bool r3, v3_], .int .i64 r5]) ∧ Kd.R (Kd.int .i64) 3 w' w.heap.size (fun k_ => some k_ ≠ (v3_ : Value).ownBlock) v1_ r2 ∧ Kd.R (Kd.int .i64) 3 w' w.heap.size (fun k_ => some k_ ≠ (v1_ : Value).ownBlock) v3_ r4 ∧ Below w.heap.size w w' := by
 have hu88 := Tryz.underlying80
 have hu45 := Tryz.underlying110
 have hz45 := run_underlying (P := Tryz.prog) Tryz.underlying110
 have HB := Z0.mk (Below.refl w.heap.size w)
 have H := h
 clear h
 unfold bIpair.f at H
 obtain ⟨t113, A3, H⟩ := bnd H
 rcases je H with ⟨-, c4b0, c4b1, H⟩ | ⟨c4, c4b0, c4b1, H⟩
 ·obtain ⟨t114, A5, H⟩ := bnd H
  rcases je H with ⟨-, c6b0, c6b1, H⟩ | ⟨c6, c6b0, c6b1, H⟩
  ·obtain ⟨⟨t115, t116⟩, A7, H⟩ := bnd H
   try dsimp only at H
   obtain ⟨⟨t119, t120⟩, A8, H⟩ := bnd H
   try dsimp only at H
   simp only [Option.some.injEq, Prod.mk.injEq] at H
   obtain ⟨rfl, rfl, rfl, rfl, rfl⟩ := H
   go_enter Tryz.func54, Tryz.ntmps54
   go_wp2_with (first | ((with_reducible refine gd_ 4 rfl ?_); refine bxE 4 #[.bool false, .slice none 0 0] 80 ?_; intro gb111 hg w9 hbox hb; have BK111 := Z0.mk hbox; have GW111 := fE HB hg; have GE111 := fE HB hg; replace HB := fB HB hb; clear hb hbox hg) | ((with_reducible refine gd_ 5 rfl ?_); refine bxE 5 #[.bool false, .slice none 0 0] 80 ?_; intro gb112 hg w10 hbox hb; have BK112 := Z0.mk hbox; have GW112 := fE HB hg; have GE112 := fE HB hg; have NB111_112 := fl BK111 hg; have NB112_111 := fg BK111 hg; replace BK111 := fk BK111 hb; replace HB := fB HB hb; clear hb hbox hg) | ((with_reducible refine gc_ 67 rfl ?_); refine gL 17 Tryz.func67 (bICheck.calls _ _ _ A3.out) ?_; rintro _ w11 ⟨rfl, hb⟩; refine ⟨_, rfl, ?_⟩; replace BK111 := fk BK111 hb; replace BK112 := fk BK112 hb; replace HB := fB HB hb; clear hb) | ((with_reducible refine gc_ 67 rfl ?_); refine gL 17 Tryz.func67 (bICheck.calls _ _ _ A5.out) ?_; rintro _ w12 ⟨rfl, hb⟩; refine ⟨_, rfl, ?_⟩; replace BK111 := fk BK111 hb; replace BK112 := fk BK112 hb; replace HB := fB HB hb; clear hb) | ((with_reducible refine gc_ 95 rfl ?_); refine gL 25 Tryz.func95 (bIread.calls _ _ _ _ _ A7.out) ?_; rintro _ w13 ⟨v117, rfl, ho0, hb⟩; refine ⟨_, rfl, ?_⟩; have HO118 := fN ho0; replace BK111 := fk BK111 hb; replace BK112 := fk BK112 hb; replace HB := fB HB hb; clear hb ho0) | ((with_reducible refine gc_ 95 rfl ?_); refine gL 27 Tryz.func95 (bIread.calls _ _ _ _ _ A8.out) ?_; rintro _ w14 ⟨v121, rfl, ho0, hb⟩; refine ⟨_, rfl, ?_⟩; have HO122 := Z0.mk (Kd.R_lower (Kd.R_new' ho0 (Kd.R_lt (rq HO118))) (below_size bqs)); replace HO118 := Z0.mk (Kd.R_elder' (rq HO118) (Kd.R_base ho0) hb); replace BK111 := fk BK111 hb; replace BK112 := fk BK112 hb; replace HB := fB HB hb; clear hb ho0; have hnb15 := NB111_112.out; have hnc15 := NB112_111.out; obtain ⟨hcz16_0, hcz16_1, hfz16_0, hfz16_1⟩ := b2 BK111; obtain ⟨Ao17, co17, eo17⟩ := Kd.R_slice HO118.out; subst eo17; obtain ⟨hcz18_0, hcz18_1, hfz18_0, hfz18_1⟩ := b2 BK112; obtain ⟨Ao19, co19, eo19⟩ := Kd.R_slice HO122.out; subst eo19))
   refine wp_loop_rounds 3 ?_
   rw [rounds_succ]
   go_wp2_with (first | ((with_reducible refine gd_ 4 rfl ?_); refine bxE 4 #[.bool false, .slice none 0 0] 80 ?_; intro gb111 hg w9 hbox hb; have BK111 := Z0.mk hbox; have GW111 := fE HB hg; have GE111 := fE HB hg; replace HB := fB HB hb; clear hb hbox hg) | ((with_reducible refine gd_ 5 rfl ?_); refine bxE 5 #[.bool false, .slice none 0 0] 80 ?_; intro gb112 hg w10 hbox hb; have BK112 := Z0.mk hbox; have GW112 := fE HB hg; have GE112 := fE HB hg; have NB111_112 := fl BK111 hg; have NB112_111 := fg BK111 hg; replace BK111 := fk BK111 hb; replace HB := fB HB hb; clear hb hbox hg) | ((with_reducible refine gc_ 67 rfl ?_); refine gL 17 Tryz.func67 (bICheck.calls _ _ _ A3.out) ?_; rintro _ w11 ⟨rfl, hb⟩; refine ⟨_, rfl, ?_⟩; replace BK111 := fk BK111 hb; replace BK112 := fk BK112 hb; replace HB := fB HB hb; clear hb) | ((with_reducible refine gc_ 67 rfl ?_); refine gL 17 Tryz.func67 (bICheck.calls _ _ _ A5.out) ?_; rintro _ w12 ⟨rfl, hb⟩; refine ⟨_, rfl, ?_⟩; replace BK111 := fk BK111 hb; replace BK112 := fk BK112 hb; replace HB := fB HB hb; clear hb) | ((with_reducible refine gc_ 95 rfl ?_); refine gL 25 Tryz.func95 (bIread.calls _ _ _ _ _ A7.out) ?_; rintro _ w13 ⟨v117, rfl, ho0, hb⟩; refine ⟨_, rfl, ?_⟩; have HO118 := fN ho0; replace BK111 := fk BK111 hb; replace BK112 := fk BK112 hb; replace HB := fB HB hb; clear hb ho0) | ((with_reducible refine gc_ 95 rfl ?_); refine gL 27 Tryz.func95 (bIread.calls _ _ _ _ _ A8.out) ?_; rintro _ w14 ⟨v121, rfl, ho0, hb⟩; refine ⟨_, rfl, ?_⟩; have HO122 := Z0.mk (Kd.R_lower (Kd.R_new' ho0 (Kd.R_lt (rq HO118))) (below_size bqs)); replace HO118 := Z0.mk (Kd.R_elder' (rq HO118) (Kd.R_base ho0) hb); replace BK111 := fk BK111 hb; replace BK112 := fk BK112 hb; replace HB := fB HB hb; clear hb ho0; have hnb15 := NB111_112.out; have hnc15 := NB112_111.out; obtain ⟨hcz16_0, hcz16_1, hfz16_0, hfz16_1⟩ := b2 BK111; obtain ⟨Ao17, co17, eo17⟩ := Kd.R_slice HO118.out; subst eo17; obtain ⟨hcz18_0, hcz18_1, hfz18_0, hfz18_1⟩ := b2 BK112; obtain ⟨Ao19, co19, eo19⟩ := Kd.R_slice HO122.out; subst eo19))
   rw [rounds_succ]
   go_wp2_with (first | ((with_reducible refine gd_ 4 rfl ?_); refine bxE 4 #[.bool false, .slice none 0 0] 80 ?_; intro gb111 hg w9 hbox hb; have BK111 := Z0.mk hbox; have GW111 := fE HB hg; have GE111 := fE HB hg; replace HB := fB HB hb; clear hb hbox hg) | ((with_reducible refine gd_ 5 rfl ?_); refine bxE 5 #[.bool false, .slice none 0 0] 80 ?_; intro gb112 hg w10 hbox hb; have BK112 := Z0.mk hbox; have GW112 := fE HB hg; have GE112 := fE HB hg; have NB111_112 := fl BK111 hg; have NB112_111 := fg BK111 hg; replace BK111 := fk BK111 hb; replace HB := fB HB hb; clear hb hbox hg) | ((with_reducible refine gc_ 67 rfl ?_); refine gL 17 Tryz.func67 (bICheck.calls _ _ _ A3.out) ?_; rintro _ w11 ⟨rfl, hb⟩; refine ⟨_, rfl, ?_⟩; replace BK111 := fk BK111 hb; replace BK112 := fk BK112 hb; replace HB := fB HB hb; clear hb) | ((with_reducible refine gc_ 67 rfl ?_); refine gL 17 Tryz.func67 (bICheck.calls _ _ _ A5.out) ?_; rintro _ w12 ⟨rfl, hb⟩; refine ⟨_, rfl, ?_⟩; replace BK111 := fk BK111 hb; replace BK112 := fk BK112 hb; replace HB := fB HB hb; clear hb) | ((with_reducible refine gc_ 95 rfl ?_); refine gL 25 Tryz.func95 (bIread.calls _ _ _ _ _ A7.out) ?_; rintro _ w13 ⟨v117, rfl, ho0, hb⟩; refine ⟨_, rfl, ?_⟩; have HO118 := fN ho0; replace BK111 := fk BK111 hb; replace BK112 := fk BK112 hb; replace HB := fB HB hb; clear hb ho0) | ((with_reducible refine gc_ 95 rfl ?_); refine gL 27 Tryz.func95 (bIread.calls _ _ _ _ _ A8.out) ?_; rintro _ w14 ⟨v121, rfl, ho0, hb⟩; refine ⟨_, rfl, ?_⟩; have HO122 := Z0.mk (Kd.R_lower (Kd.R_new' ho0 (Kd.R_lt (rq HO118))) (below_size bqs)); replace HO118 := Z0.mk (Kd.R_elder' (rq HO118) (Kd.R_base ho0) hb); replace BK111 := fk BK111 hb; replace BK112 := fk BK112 hb; replace HB := fB HB hb; clear hb ho0; have hnb15 := NB111_112.out; have hnc15 := NB112_111.out; obtain ⟨hcz16_0, hcz16_1, hfz16_0, hfz16_1⟩ := b2 BK111; obtain ⟨Ao17, co17, eo17⟩ := Kd.R_slice HO118.out; subst eo17; obtain ⟨hcz18_0, hcz18_1, hfz18_0, hfz18_1⟩ := b2 BK112; obtain ⟨Ao19, co19, eo19⟩ := Kd.R_slice HO122.out; subst eo19))
   rw [rounds_succ]
   go_wp2_with (first | ((with_reducible refine gd_ 4 rfl ?_); refine bxE 4 #[.bool false, .slice none 0 0] 80 ?_; intro gb111 hg w9 hbox hb; have BK111 := Z0.mk hbox; have GW111 := fE HB hg; have GE111 := fE HB hg; replace HB := fB HB hb; clear hb hbox hg) | ((with_reducible refine gd_ 5 rfl ?_); refine bxE 5 #[.bool false, .slice none 0 0] 80 ?_; intro gb112 hg w10 hbox hb; have BK112 := Z0.mk hbox; have GW112 := fE HB hg; have GE112 := fE HB hg; have NB111_112 := fl BK111 hg; have NB112_111 := fg BK111 hg; replace BK111 := fk BK111 hb; replace HB := fB HB hb; clear hb hbox hg) | ((with_reducible refine gc_ 67 rfl ?_); refine gL 17 Tryz.func67 (bICheck.calls _ _ _ A3.out) ?_; rintro _ w11 ⟨rfl, hb⟩; refine ⟨_, rfl, ?_⟩; replace BK111 := fk BK111 hb; replace BK112 := fk BK112 hb; replace HB := fB HB hb; clear hb) | ((with_reducible refine gc_ 67 rfl ?_); refine gL 17 Tryz.func67 (bICheck.calls _ _ _ A5.out) ?_; rintro _ w12 ⟨rfl, hb⟩; refine ⟨_, rfl, ?_⟩; replace BK111 := fk BK111 hb; replace BK112 := fk BK112 hb; replace HB := fB HB hb; clear hb) | ((with_reducible refine gc_ 95 rfl ?_); refine gL 25 Tryz.func95 (bIread.calls _ _ _ _ _ A7.out) ?_; rintro _ w13 ⟨v117, rfl, ho0, hb⟩; refine ⟨_, rfl, ?_⟩; have HO118 := fN ho0; replace BK111 := fk BK111 hb; replace BK112 := fk BK112 hb; replace HB := fB HB hb; clear hb ho0) | ((with_reducible refine gc_ 95 rfl ?_); refine gL 27 Tryz.func95 (bIread.calls _ _ _ _ _ A8.out) ?_; rintro _ w14 ⟨v121, rfl, ho0, hb⟩; refine ⟨_, rfl, ?_⟩; have HO122 := Z0.mk (Kd.R_lower (Kd.R_new' ho0 (Kd.R_lt (rq HO118))) (below_size bqs)); replace HO118 := Z0.mk (Kd.R_elder' (rq HO118) (Kd.R_base ho0) hb); replace BK111 := fk BK111 hb; replace BK112 := fk BK112 hb; replace HB := fB HB hb; clear hb ho0; have hnb15 := NB111_112.out; have hnc15 := NB112_111.out; obtain ⟨hcz16_0, hcz16_1, hfz16_0, hfz16_1⟩ := b2 BK111; obtain ⟨Ao17, co17, eo17⟩ := Kd.R_slice HO118.out; subst eo17; obtain ⟨hcz18_0, hcz18_1, hfz18_0, hfz18_1⟩ := b2 BK112; obtain ⟨Ao19, co19, eo19⟩ := Kd.R_slice HO122.out; subst eo19))
   refine bodyPost_ret (results_list (rs := [.cell 4 80, .cell 5 80, .tmp 6]) rfl (by simp) (.cell gb111 80 #[.bool t115, .slice Ao17 t116.length co17] (0, 0) _ rfl (by (with_reducible repeat (first | refine blk_drewN ?_ _ | refine blk_drew ?_ | refine blk_alloc ?_ _)); refine blk_far ?_ NB111_112.out _; (with_reducible repeat (first | refine blk_drewN ?_ _ | refine blk_drew ?_ | refine blk_alloc ?_ _)); refine blk_far ?_ NB111_112.out _; (with_reducible repeat (first | refine blk_drewN ?_ _ | refine blk_drew ?_ | refine blk_alloc ?_ _)); refine blk_put (cs := #[.bool t115, .slice none 0 0]) ?_ 1 _ rfl; (with_reducible repeat (first | refine blk_drewN ?_ _ | refine blk_drew ?_ | refine blk_alloc ?_ _)); refine blk_put (cs := #[.bool false, .slice none 0 0]) ?_ 0 _ rfl; (with_reducible repeat (first | refine blk_drewN ?_ _ | refine blk_drew ?_ | refine blk_alloc ?_ _)); exact BK111.out) Tryz.underlying80 rfl (by kernel_rfl) (.cell gb112 80 #[.bool t119, .slice Ao19 t120.length co19] (0, 0) _ rfl (by (with_reducible repeat (first | refine blk_drewN ?_ _ | refine blk_drew ?_ | refine blk_alloc ?_ _)); refine blk_put (cs := #[.bool t119, .slice none 0 0]) ?_ 1 _ rfl; (with_reducible repeat (first | refine blk_drewN ?_ _ | refine blk_drew ?_ | refine blk_alloc ?_ _)); refine blk_put (cs := #[.bool false, .slice none 0 0]) ?_ 0 _ rfl; (with_reducible repeat (first | refine blk_drewN ?_ _ | refine blk_drew ?_ | refine blk_alloc ?_ _)); refine blk_far ?_ NB112_111.out _; (with_reducible repeat (first | refine blk_drewN ?_ _ | refine blk_drew ?_ | refine blk_alloc ?_ _)); refine blk_far ?_ NB112_111.out _; (with_reducible repeat (first | refine blk_drewN ?_ _ | refine blk_drew ?_ | refine blk_alloc ?_ _)); exact BK112.out) Tryz.underlying80 rfl (by kernel_rfl) (.tmp .nil)))) rfl ?_
   exact ⟨_, _, fe, by (with_reducible repeat (first | apply Kd.R_alloc | apply Kd.R_drewN | apply Kd.R_drew)); exact Kd.R_mono (Kd.R_far (p := ⟨gb112, 1, none⟩) (Kd.R_far (p := ⟨gb112, 0, none⟩) (Kd.R_far (p := ⟨gb111, 1, none⟩) (Kd.R_far (p := ⟨gb111, 0, none⟩) (Kd.R_types (Kd.R_types HO118.out BK111.out (by decide)) BK112.out (by decide)) (fun _ hk => hk.1.2) (.bool t115)) (fun _ hk => hk.1.2) (.slice Ao17 t116.length co17)) (fun _ hk => hk.2) (.bool t119)) (fun _ hk => hk.2) (.slice Ao19 t120.length co19)) (fun _ hk => hk.1.1.2), by (with_reducible repeat (first | apply Kd.R_alloc | apply Kd.R_drewN | apply Kd.R_drew)); exact Kd.R_mono (Kd.R_far (p := ⟨gb112, 1, none⟩) (Kd.R_far (p := ⟨gb112, 0, none⟩) (Kd.R_far (p := ⟨gb111, 1, none⟩) (Kd.R_far (p := ⟨gb111, 0, none⟩) (Kd.R_types (Kd.R_types HO122.out BK111.out (by decide)) BK112.out (by decide)) (fun _ hk => hk.1.2) (.bool t115)) (fun _ hk => hk.1.2) (.slice Ao17 t116.length co17)) (fun _ hk => hk.2) (.bool t119)) (fun _ hk => hk.2) (.slice Ao19 t120.length co19)) (fun _ hk => hk.1.1.2), bqs⟩
  simp only [Option.some.injEq, Prod.mk.injEq] at H
  obtain ⟨rfl, rfl, rfl, rfl, rfl⟩ := H
  go_enter Tryz.func54, Tryz.ntmps54
  go_wp2_with (first | ((with_reducible refine gd_ 4 rfl ?_); refine bxE 4 #[.bool false, .slice none 0 0] 80 ?_; intro gb111 hg w20 hbox hb; have BK111 := Z0.mk hbox; have GW111 := fE HB hg; have GE111 := fE HB hg; replace HB := fB HB hb; clear hb hbox hg) | ((with_reducible refine gd_ 5 rfl ?_); refine bxE 5 #[.bool false, .slice none 0 0] 80 ?_; intro gb112 hg w21 hbox hb; have BK112 := Z0.mk hbox; have GW112 := fE HB hg; have GE112 := fE HB hg; have NB111_112 := fl BK111 hg; have NB112_111 := fg BK111 hg; replace BK111 := fk BK111 hb; replace HB := fB HB hb; clear hb hbox hg) | ((with_reducible refine gc_ 67 rfl ?_); refine gL 17 Tryz.func67 (bICheck.calls _ _ _ A3.out) ?_; rintro _ w22 ⟨rfl, hb⟩; refine ⟨_, rfl, ?_⟩; replace BK111 := fk BK111 hb; replace BK112 := fk BK112 hb; replace HB := fB HB hb; clear hb) | ((with_reducible refine gc_ 67 rfl ?_); refine gL 17 Tryz.func67 (bICheck.calls _ _ _ A5.out) ?_; rintro _ w23 ⟨rfl, hb⟩; refine ⟨_, rfl, ?_⟩; replace BK111 := fk BK111 hb; replace BK112 := fk BK112 hb; replace HB := fB HB hb; clear hb; have hnb24 := NB111_112.out; have hnc24 := NB112_111.out; obtain ⟨hcz25_0, hcz25_1, hfz25_0, hfz25_1⟩ := b2 BK111; obtain ⟨hcz26_0, hcz26_1, hfz26_0, hfz26_1⟩ := b2 BK112))
  refine wp_loop_rounds 3 ?_
  rw [rounds_succ]
  go_wp2_with (first | ((with_reducible refine gd_ 4 rfl ?_); refine bxE 4 #[.bool false, .slice none 0 0] 80 ?_; intro gb111 hg w20 hbox hb; have BK111 := Z0.mk hbox; have GW111 := fE HB hg; have GE111 := fE HB hg; replace HB := fB HB hb; clear hb hbox hg) | ((with_reducible refine gd_ 5 rfl ?_); refine bxE 5 #[.bool false, .slice none 0 0] 80 ?_; intro gb112 hg w21 hbox hb; have BK112 := Z0.mk hbox; have GW112 := fE HB hg; have GE112 := fE HB hg; have NB111_112 := fl BK111 hg; have NB112_111 := fg BK111 hg; replace BK111 := fk BK111 hb; replace HB := fB HB hb; clear hb hbox hg) | ((with_reducible refine gc_ 67 rfl ?_); refine gL 17 Tryz.func67 (bICheck.calls _ _ _ A3.out) ?_; rintro _ w22 ⟨rfl, hb⟩; refine ⟨_, rfl, ?_⟩; replace BK111 := fk BK111 hb; replace BK112 := fk BK112 hb; replace HB := fB HB hb; clear hb) | ((with_reducible refine gc_ 67 rfl ?_); refine gL 17 Tryz.func67 (bICheck.calls _ _ _ A5.out) ?_; rintro _ w23 ⟨rfl, hb⟩; refine ⟨_, rfl, ?_⟩; replace BK111 := fk BK111 hb; replace BK112 := fk BK112 hb; replace HB := fB HB hb; clear hb; have hnb24 := NB111_112.out; have hnc24 := NB112_111.out; obtain ⟨hcz25_0, hcz25_1, hfz25_0, hfz25_1⟩ := b2 BK111; obtain ⟨hcz26_0, hcz26_1, hfz26_0, hfz26_1⟩ := b2 BK112))
  rw [rounds_succ]
  go_wp2_with (first | ((with_reducible refine gd_ 4 rfl ?_); refine bxE 4 #[.bool false, .slice none 0 0] 80 ?_; intro gb111 hg w20 hbox hb; have BK111 := Z0.mk hbox; have GW111 := fE HB hg; have GE111 := fE HB hg; replace HB := fB HB hb; clear hb hbox hg) | ((with_reducible refine gd_ 5 rfl ?_); refine bxE 5 #[.bool false, .slice none 0 0] 80 ?_; intro gb112 hg w21 hbox hb; have BK112 := Z0.mk hbox; have GW112 := fE HB hg; have GE112 := fE HB hg; have NB111_112 := fl BK111 hg; have NB112_111 := fg BK111 hg; replace BK111 := fk BK111 hb; replace HB := fB HB hb; clear hb hbox hg) | ((with_reducible refine gc_ 67 rfl ?_); refine gL 17 Tryz.func67 (bICheck.calls _ _ _ A3.out) ?_; rintro _ w22 ⟨rfl, hb⟩; refine ⟨_, rfl, ?_⟩; replace BK111 := fk BK111 hb; replace BK112 := fk BK112 hb; replace HB := fB HB hb; clear hb) | ((with_reducible refine gc_ 67 rfl ?_); refine gL 17 Tryz.func67 (bICheck.calls _ _ _ A5.out) ?_; rintro _ w23 ⟨rfl, hb⟩; refine ⟨_, rfl, ?_⟩; replace BK111 := fk BK111 hb; replace BK112 := fk BK112 hb; replace HB := fB HB hb; clear hb; have hnb24 := NB111_112.out; have hnc24 := NB112_111.out; obtain ⟨hcz25_0, hcz25_1, hfz25_0, hfz25_1⟩ := b2 BK111; obtain ⟨hcz26_0, hcz26_1, hfz26_0, hfz26_1⟩ := b2 BK112))
  refine bodyPost_ret (results_list (rs := [.cell 4 80, .cell 5 80, .tmp 6]) rfl (by simp) (.cell gb111 80 #[.bool false, .slice none 0 0] (0, 0) _ rfl (by (with_reducible repeat (first | refine blk_drewN ?_ _ | refine blk_drew ?_ | refine blk_alloc ?_ _)); refine blk_far ?_ NB111_112.out _; (with_reducible repeat (first | refine blk_drewN ?_ _ | refine blk_drew ?_ | refine blk_alloc ?_ _)); refine blk_far ?_ NB111_112.out _; (with_reducible repeat (first | refine blk_drewN ?_ _ | refine blk_drew ?_ | refine blk_alloc ?_ _)); refine blk_put (cs := #[.bool false, .slice none 0 0]) ?_ 1 _ rfl; (with_reducible repeat (first | refine blk_drewN ?_ _ | refine blk_drew ?_ | refine blk_alloc ?_ _)); refine blk_put (cs := #[.bool false, .slice none 0 0]) ?_ 0 _ rfl; (with_reducible repeat (first | refine blk_drewN ?_ _ | refine blk_drew ?_ | refine blk_alloc ?_ _)); exact BK111.out) Tryz.underlying80 rfl (by kernel_rfl) (.cell gb112 80 #[.bool false, .slice none 0 0] (0, 0) _ rfl (by (with_reducible repeat (first | refine blk_drewN ?_ _ | refine blk_drew ?_ | refine blk_alloc ?_ _)); refine blk_put (cs := #[.bool false, .slice none 0 0]) ?_ 1 _ rfl; (with_reducible repeat (first | refine blk_drewN ?_ _ | refine blk_drew ?_ | refine blk_alloc ?_ _)); refine blk_put (cs := #[.bool false, .slice none 0 0]) ?_ 0 _ rfl; (with_reducible repeat (first | refine blk_drewN ?_ _ | refine blk_drew ?_ | refine blk_alloc ?_ _)); refine blk_far ?_ NB112_111.out _; (with_reducible repeat (first | refine blk_drewN ?_ _ | refine blk_drew ?_ | refine blk_alloc ?_ _)); refine blk_far ?_ NB112_111.out _; (with_reducible repeat (first | refine blk_drewN ?_ _ | refine blk_drew ?_ | refine blk_alloc ?_ _)); exact BK112.out) Tryz.underlying80 rfl (by kernel_rfl) (.tmp .nil)))) rfl ?_
  exact ⟨_, _, fe, by first | exact Kd.R_nil _ _ _ _ _ | exact Kd.N_nil _ _ _ _ _ | exact Kd.V_nil _ _ _ _ _ | exact Kd.Q_nil _ _ _ _ _ | exact Kd.S_nil _ _ _ _ _, by first | exact Kd.R_nil _ _ _ _ _ | exact Kd.N_nil _ _ _ _ _ | exact Kd.V_nil _ _ _ _ _ | exact Kd.Q_nil _ _ _ _ _ | exact Kd.S_nil _ _ _ _ _, bqs⟩
 simp only [Option.some.injEq, Prod.mk.injEq] at H
 obtain ⟨rfl, rfl, rfl, rfl, rfl⟩ := H
 go_enter Tryz.func54, Tryz.ntmps54
 go_wp2_with (first | ((with_reducible refine gd_ 4 rfl ?_); refine bxE 4 #[.bool false, .slice none 0 0] 80 ?_; intro gb111 hg w27 hbox hb; have BK111 := Z0.mk hbox; have GW111 := fE HB hg; have GE111 := fE HB hg; replace HB := fB HB hb; clear hb hbox hg) | ((with_reducible refine gd_ 5 rfl ?_); refine bxE 5 #[.bool false, .slice none 0 0] 80 ?_; intro gb112 hg w28 hbox hb; have BK112 := Z0.mk hbox; have GW112 := fE HB hg; have GE112 := fE HB hg; have NB111_112 := fl BK111 hg; have NB112_111 := fg BK111 hg; replace BK111 := fk BK111 hb; replace HB := fB HB hb; clear hb hbox hg) | ((with_reducible refine gc_ 67 rfl ?_); refine gL 17 Tryz.func67 (bICheck.calls _ _ _ A3.out) ?_; rintro _ w29 ⟨rfl, hb⟩; refine ⟨_, rfl, ?_⟩; replace BK111 := fk BK111 hb; replace BK112 := fk BK112 hb; replace HB := fB HB hb; clear hb; have hnb30 := NB111_112.out; have hnc30 := NB112_111.out; obtain ⟨hcz31_0, hcz31_1, hfz31_0, hfz31_1⟩ := b2 BK111; obtain ⟨hcz32_0, hcz32_1, hfz32_0, hfz32_1⟩ := b2 BK112))
 refine wp_loop_rounds 3 ?_
 rw [rounds_succ]
 go_wp2_with (first | ((with_reducible refine gd_ 4 rfl ?_); refine bxE 4 #[.bool false, .slice none 0 0] 80 ?_; intro gb111 hg w27 hbox hb; have BK111 := Z0.mk hbox; have GW111 := fE HB hg; have GE111 := fE HB hg; replace HB := fB HB hb; clear hb hbox hg) | ((with_reducible refine gd_ 5 rfl ?_); refine bxE 5 #[.bool false, .slice none 0 0] 80 ?_; intro gb112 hg w28 hbox hb; have BK112 := Z0.mk hbox; have GW112 := fE HB hg; have GE112 := fE HB hg; have NB111_112 := fl BK111 hg; have NB112_111 := fg BK111 hg; replace BK111 := fk BK111 hb; replace HB := fB HB hb; clear hb hbox hg) | ((with_reducible refine gc_ 67 rfl ?_); refine gL 17 Tryz.func67 (bICheck.calls _ _ _ A3.out) ?_; rintro _ w29 ⟨rfl, hb⟩; refine ⟨_, rfl, ?_⟩; replace BK111 := fk BK111 hb; replace BK112 := fk BK112 hb; replace HB := fB HB hb; clear hb; have hnb30 := NB111_112.out; have hnc30 := NB112_111.out; obtain ⟨hcz31_0, hcz31_1, hfz31_0, hfz31_1⟩ := b2 BK111; obtain ⟨hcz32_0, hcz32_1, hfz32_0, hfz32_1⟩ := b2 BK112))
 refine bodyPost_ret (results_list (rs := [.cell 4 80, .cell 5 80, .tmp 6]) rfl (by simp) (.cell gb111 80 #[.bool false, .slice none 0 0] (0, 0) _ rfl (by (with_reducible repeat (first | refine blk_drewN ?_ _ | refine blk_drew ?_ | refine blk_alloc ?_ _)); refine blk_far ?_ NB111_112.out _; (with_reducible repeat (first | refine blk_drewN ?_ _ | refine blk_drew ?_ | refine blk_alloc ?_ _)); refine blk_far ?_ NB111_112.out _; (with_reducible repeat (first | refine blk_drewN ?_ _ | refine blk_drew ?_ | refine blk_alloc ?_ _)); refine blk_put (cs := #[.bool false, .slice none 0 0]) ?_ 1 _ rfl; (with_reducible repeat (first | refine blk_drewN ?_ _ | refine blk_drew ?_ | refine blk_alloc ?_ _)); refine blk_put (cs := #[.bool false, .slice none 0 0]) ?_ 0 _ rfl; (with_reducible repeat (first | refine blk_drewN ?_ _ | refine blk_drew ?_ | refine blk_alloc ?_ _)); exact BK111.out) Tryz.underlying80 rfl (by kernel_rfl) (.cell gb112 80 #[.bool false, .slice none 0 0] (0, 0) _ rfl (by (with_reducible repeat (first | refine blk_drewN ?_ _ | refine blk_drew ?_ | refine blk_alloc ?_ _)); refine blk_put (cs := #[.bool false, .slice none 0 0]) ?_ 1 _ rfl; (with_reducible repeat (first | refine blk_drewN ?_ _ | refine blk_drew ?_ | refine blk_alloc ?_ _)); refine blk_put (cs := #[.bool false, .slice none 0 0]) ?_ 0 _ rfl; (with_reducible repeat (first | refine blk_drewN ?_ _ | refine blk_drew ?_ | refine blk_alloc ?_ _)); refine blk_far ?_ NB112_111.out _; (with_reducible repeat (first | refine blk_drewN ?_ _ | refine blk_drew ?_ | refine blk_alloc ?_ _)); refine blk_far ?_ NB112_111.out _; (with_reducible repeat (first | refine blk_drewN ?_ _ | refine blk_drew ?_ | refine blk_alloc ?_ _)); exact BK112.out) Tryz.underlying80 rfl (by kernel_rfl) (.tmp .nil)))) rfl ?_
 exact ⟨_, _, fe, by first | exact Kd.R_nil _ _ _ _ _ | exact Kd.N_nil _ _ _ _ _ | exact Kd.V_nil _ _ _ _ _ | exact Kd.Q_nil _ _ _ _ _ | exact Kd.S_nil _ _ _ _ _, by first | exact Kd.R_nil _ _ _ _ _ | exact Kd.N_nil _ _ _ _ _ | exact Kd.V_nil _ _ _ _ _ | exact Kd.Q_nil _ _ _ _ _ | exact Kd.S_nil _ _ _ _ _, bqs⟩
end Go.Proofs.YtinpcbjjnlpblaaGreatDoor
namespace Go.Proofs.YtinpcbjjnlpblaaGreatDoor.PA
set_option linter.unusedVariables false
open Go.RowKit Go.Proofs.WWords Go.Proofs.WLast Go.Proofs.WMore
attribute [local go_sem] max2_int min2_int max_two min_two max_three min_three max_four min_four
set_option linter.unusedSimpArgs false
theorem bIminus.calls (k : Nat) (A0 : Option Addr) (c0 : Nat) (l0 : List Int) (A1 : Option Addr) (c1 : Nat) (l1 : List Int) (r : List Int) (w : World) (hr0 : Kd.C (Kd.int .i64) w A0 l0.length l0) (hc0 : l0.length ≤ c0) (hr1 : Kd.C (Kd.int .i64) w A1 l1.length l1) (hc1 : l1.length ≤ c1) (h : bIminus.f k l0 l1 = some r) :
  Calls Tryz.prog 103 #[.slice A0 l0.length c0, .slice A1 l1.length c1] w fun e w' => ∃ v0_ : Value, e = .returned (v0_) ∧ Kd.R (Kd.int .i64) 3 w' w.heap.size (fun _ => True) v0_ r ∧ Below w.heap.size w w' := by
 have HR0 := Z0.mk hr0
 have HC0 := Z0.mk hc0
 clear hr0 hc0
 have HR1 := Z0.mk hr1
 have HC1 := Z0.mk hc1
 clear hr1 hc1
 have HB := Z0.mk (Below.refl w.heap.size w)
 have H := h
 clear h
 unfold bIminus.f at H
 obtain ⟨-, c3b0, c3b1, H⟩ := gt H
 obtain ⟨-, c4b0, c4b1, H⟩ := gt H
 obtain ⟨y229, Ny229, H⟩ := yb H
 have H' := Z0.mk H
 clear H
 go_enter Tryz.func103, Tryz.ntmps103
 go_wp2_with (first | ((with_reducible refine gd_ 11 rfl ?_); refine Kd.R_make (Kd.int .i64) _ 3 rfl (N := 11) rfl 78 _ _ rfl (l0.length : Int) rfl rfl Tryz.underlying78 (.int .i64 0) 8 info3 rfl (by decide) (by omega) 0 (ok := fun _ => True) (okp := fun _ => True) rfl (fun _ hk => hk) trivial od (Nat.le_trans (Nat.mul_le_mul_right _ (od : (l0.length : Int).toNat ≤ 35184372088832)) (by omega)) (Below.refl _ _) (Nat.le_refl _) ?_; intro v230 w5 ho6 hb hg_ hnew_; clear hg_ hnew_; (first | rw [← Ny229.out] at ho6 | (simp only [Int.reduceToNat] at ho6; rw [← Ny229.out] at ho6)); have HO231 := Z0.mk (Kd.R_lower ho6 (below_size bqs)); replace HB := fB HB hb; clear hb ho6; obtain ⟨Ao7, co7, eo7⟩ := Kd.R_slice HO231.out; subst eo7))
 go_loopg [6, 14] k (fun kq v6 v14 w' => ∃ (x5_1 : List Int) (x6_1 : Int) (x14_1 : Int), v6 = .int .i64 x6_1 ∧ v14 = .int .i64 x14_1 ∧ Z0 (bIminus.l0 kq l0 l1 x5_1 x6_1 (y229.length : Int) x14_1 = some r) ∧ Z0 (kq ≤ k) ∧ Z0 (Kd.R (Kd.int .i64) 3 w' w.heap.size (fun _ => True) (.slice Ao7 y229.length co7) x5_1) ∧ Z0 (Below w.heap.size w w'))
 case atStart => exact ⟨(y229), (0), (0), fs, fs, H', ⟨Nat.le_refl _⟩, ⟨rq HO231⟩, ⟨bqs⟩⟩
 case round =>
  clear H'
  try clear c1
  try clear p2
  try clear c3
  try clear c3b0
  try clear c3b1
  try clear c4
  try clear c4b0
  try clear c4b1
  obtain ⟨x5_1, x6_1, x14_1, rfl, rfl, HA, HK1, HO_5, HB⟩ := hrel
  have hl5_1 := (Kd.R_reads' HO_5.out).1
  rw [hl5_1] at HO_5
  (try simp only [hl5_1])
  cases gk with
  | zero => exact absurd HA.out (by simp [bIminus.l0])
  | succ k1 =>
   have H := HA.out
   clear HA
   simp only [bIminus.l0] at H
   rcases jd H with ⟨c8, c8b0, H⟩ | ⟨c8, c8b0, H⟩
   ·(try (have c8b0_ := c8b0; rw [hl5_1] at c8b0_))
    clear c8
    obtain ⟨-, c9b0, H⟩ := gd H
    obtain ⟨c10, c10b0, H⟩ := gd H
    (try (have c10b0_ := c10b0; rw [hl5_1] at c10b0_))
    clear c10
    rcases jd H with ⟨c11, c11b0, H⟩ | ⟨c11, c11b0, H⟩
    ·(try (have c11b0_ := c11b0; rw [hl5_1] at c11b0_))
     clear c11
     rcases jd H with ⟨-, c12b0, H⟩ | ⟨-, c12b0, H⟩
     ·obtain ⟨c13, c13b0, H⟩ := gd H
      (try (have c13b0_ := c13b0; rw [hl5_1] at c13b0_))
      clear c13
      generalize hy237 : (x5_1.set (x14_1 : Int).toNat (wrap64 ((wrap64 ((wrap64 ((rd l0 x14_1) - x6_1)) - (rd l1 x14_1))) + 1000000000)) : List Int) = y237 at H
      have Ny237 := Z0.mk hy237.symm
      clear hy237
      have H' := Z0.mk H
      clear H
      obtain ⟨ad235, e235, hx235_0, p235, q235⟩ := atB HB HR0.out x14_1
      cases e235
      obtain ⟨ad236, e236, hx236_0, p236, q236⟩ := atB HB HR1.out x14_1
      cases e236
      have p14 : 0 ≤ (x14_1 : Int) := od
      have q14 : (x14_1 : Int) < ((x5_1.length : Int) : Int) := od
      obtain ⟨go14, co14, eo14, gb14, gl14, cl14, HG14⟩ := Kd.R_form HO_5.out (by omega)
      (first | cases eo14 | (injection eo14 with ea_ en_ ec_; (first | subst ea_ | (injection ea_ with ea_; subst ea_)); subst ec_; clear en_))
      have GB14 := Z0.mk gb14
      have GG14 := Z0.mk HG14
      clear gb14 gl14 HG14
      obtain ⟨hx14_0, hf14_0⟩ := Kd.R_celln 0 HO_5.out (x14_1 : Int) p14 q14
      replace p14 := eq_true p14
      replace q14 := eq_true q14
      have HP15 := Kd.R_putg HO_5.out (x14_1 : Int) (wrap64 ((wrap64 ((wrap64 ((rd l0 x14_1) - x6_1)) - (rd l1 x14_1))) + 1000000000))
      go_wp2_with (first | ((with_reducible refine gate_store (t := 3) (p := 40) rfl ?_); refine store_event (t := 3) (p := 40) (v := ?vo_w16) (w1 := (wr.setCell ⟨go14, (x14_1 : Int).toNat, none⟩ (.int .i64 (wrap64 ((wrap64 ((wrap64 ((rd l0 x14_1) - x6_1)) - (rd l1 x14_1))) + 1000000000))))) ?hg ?ho ?hn ?hr ?_; (case ho => rfl); (case hg => rfl); (case hn => rfl); (case hr => first | (go_simp; done) | (go_simp; rfl)); intro w16 hw; have hg : wr.grownBy w16 (some go14) := (by rw [hw]; exact HP15.2); have hp_ : Kd.R (Kd.int .i64) 3 w16 w.heap.size (fun _ => True) (.slice (some ⟨go14, 0, none⟩) x5_1.length co7) y237 := (by rw [hw, Ny237.out]; exact HP15.1); clear HP15; replace HO_5 := Z0.mk (hp_); replace HB := Z0.mk ((by rw [hw]; exact below_set (HB.out) GB14.out : Below w.heap.size w w16)); clear hg hw hp_))
      (try simp only [← hl5_1])
      go_roundg k1
      case measure => have := HK1.out; omega
      case rel => exact ⟨(y237), (1), (wrap64 (x14_1 + 1)), fs, fs, H', ⟨by have := HK1.out; omega⟩, ⟨by (try simp only [hl5_1]); (with_reducible repeat (first | apply Kd.R_alloc | apply Kd.R_drewN | apply Kd.R_drew)); exact HO_5.out⟩, ⟨bqs⟩⟩
     obtain ⟨c17, c17b0, H⟩ := gd H
     (try (have c17b0_ := c17b0; rw [hl5_1] at c17b0_))
     clear c17
     generalize hy238 : (x5_1.set (x14_1 : Int).toNat (wrap64 ((wrap64 ((rd l0 x14_1) - x6_1)) - (rd l1 x14_1))) : List Int) = y238 at H
     have Ny238 := Z0.mk hy238.symm
     clear hy238
     have H' := Z0.mk H
     clear H
     obtain ⟨ad235, e235, hx235_0, p235, q235⟩ := atB HB HR0.out x14_1
     cases e235
     obtain ⟨ad236, e236, hx236_0, p236, q236⟩ := atB HB HR1.out x14_1
     cases e236
     have p18 : 0 ≤ (x14_1 : Int) := od
     have q18 : (x14_1 : Int) < ((x5_1.length : Int) : Int) := od
     obtain ⟨go18, co18, eo18, gb18, gl18, cl18, HG18⟩ := Kd.R_form HO_5.out (by omega)
     (first | cases eo18 | (injection eo18 with ea_ en_ ec_; (first | subst ea_ | (injection ea_ with ea_; subst ea_)); subst ec_; clear en_))
     have GB18 := Z0.mk gb18
     have GG18 := Z0.mk HG18
     clear gb18 gl18 HG18
     obtain ⟨hx18_0, hf18_0⟩ := Kd.R_celln 0 HO_5.out (x14_1 : Int) p18 q18
     replace p18 := eq_true p18
     replace q18 := eq_true q18
     have HP19 := Kd.R_putg HO_5.out (x14_1 : Int) (wrap64 ((wrap64 ((rd l0 x14_1) - x6_1)) - (rd l1 x14_1)))
     go_wp2_with (first | ((with_reducible refine gate_store (t := 3) (p := 40) rfl ?_); refine store_event (t := 3) (p := 40) (v := ?vo_w20) (w1 := (wr.setCell ⟨go18, (x14_1 : Int).toNat, none⟩ (.int .i64 (wrap64 ((wrap64 ((rd l0 x14_1) - x6_1)) - (rd l1 x14_1)))))) ?hg ?ho ?hn ?hr ?_; (case ho => rfl); (case hg => rfl); (case hn => rfl); (case hr => first | (go_simp; done) | (go_simp; rfl)); intro w20 hw; have hg : wr.grownBy w20 (some go18) := (by rw [hw]; exact HP19.2); have hp_ : Kd.R (Kd.int .i64) 3 w20 w.heap.size (fun _ => True) (.slice (some ⟨go18, 0, none⟩) x5_1.length co7) y238 := (by rw [hw, Ny238.out]; exact HP19.1); clear HP19; replace HO_5 := Z0.mk (hp_); replace HB := Z0.mk ((by rw [hw]; exact below_set (HB.out) GB18.out : Below w.heap.size w w20)); clear hg hw hp_))
     (try simp only [← hl5_1])
     go_roundg k1
     case measure => have := HK1.out; omega
     case rel => exact ⟨(y238), (0), (wrap64 (x14_1 + 1)), fs, fs, H', ⟨by have := HK1.out; omega⟩, ⟨by (try simp only [hl5_1]); (with_reducible repeat (first | apply Kd.R_alloc | apply Kd.R_drewN | apply Kd.R_drew)); exact HO_5.out⟩, ⟨bqs⟩⟩
    (try (have c11b0_ := c11b0; rw [hl5_1] at c11b0_))
    clear c11
    rcases jd H with ⟨-, c21b0, H⟩ | ⟨-, c21b0, H⟩
    ·obtain ⟨c22, c22b0, H⟩ := gd H
     (try (have c22b0_ := c22b0; rw [hl5_1] at c22b0_))
     clear c22
     generalize hy239 : (x5_1.set (x14_1 : Int).toNat (wrap64 ((wrap64 ((rd l0 x14_1) - x6_1)) + 1000000000)) : List Int) = y239 at H
     have Ny239 := Z0.mk hy239.symm
     clear hy239
     have H' := Z0.mk H
     clear H
     obtain ⟨ad235, e235, hx235_0, p235, q235⟩ := atB HB HR0.out x14_1
     cases e235
     have p23 : 0 ≤ (x14_1 : Int) := od
     have q23 : (x14_1 : Int) < ((x5_1.length : Int) : Int) := od
     obtain ⟨go23, co23, eo23, gb23, gl23, cl23, HG23⟩ := Kd.R_form HO_5.out (by omega)
     (first | cases eo23 | (injection eo23 with ea_ en_ ec_; (first | subst ea_ | (injection ea_ with ea_; subst ea_)); subst ec_; clear en_))
     have GB23 := Z0.mk gb23
     have GG23 := Z0.mk HG23
     clear gb23 gl23 HG23
     obtain ⟨hx23_0, hf23_0⟩ := Kd.R_celln 0 HO_5.out (x14_1 : Int) p23 q23
     replace p23 := eq_true p23
     replace q23 := eq_true q23
     have HP24 := Kd.R_putg HO_5.out (x14_1 : Int) (wrap64 ((wrap64 ((rd l0 x14_1) - x6_1)) + 1000000000))
     go_wp2_with (first | ((with_reducible refine gate_store (t := 3) (p := 40) rfl ?_); refine store_event (t := 3) (p := 40) (v := ?vo_w25) (w1 := (wr.setCell ⟨go23, (x14_1 : Int).toNat, none⟩ (.int .i64 (wrap64 ((wrap64 ((rd l0 x14_1) - x6_1)) + 1000000000))))) ?hg ?ho ?hn ?hr ?_; (case ho => rfl); (case hg => rfl); (case hn => rfl); (case hr => first | (go_simp; done) | (go_simp; rfl)); intro w25 hw; have hg : wr.grownBy w25 (some go23) := (by rw [hw]; exact HP24.2); have hp_ : Kd.R (Kd.int .i64) 3 w25 w.heap.size (fun _ => True) (.slice (some ⟨go23, 0, none⟩) x5_1.length co7) y239 := (by rw [hw, Ny239.out]; exact HP24.1); clear HP24; replace HO_5 := Z0.mk (hp_); replace HB := Z0.mk ((by rw [hw]; exact below_set (HB.out) GB23.out : Below w.heap.size w w25)); clear hg hw hp_))
     (try simp only [← hl5_1])
     go_roundg k1
     case measure => have := HK1.out; omega
     case rel => exact ⟨(y239), (1), (wrap64 (x14_1 + 1)), fs, fs, H', ⟨by have := HK1.out; omega⟩, ⟨by (try simp only [hl5_1]); (with_reducible repeat (first | apply Kd.R_alloc | apply Kd.R_drewN | apply Kd.R_drew)); exact HO_5.out⟩, ⟨bqs⟩⟩
    obtain ⟨c26, c26b0, H⟩ := gd H
    (try (have c26b0_ := c26b0; rw [hl5_1] at c26b0_))
    clear c26
    generalize hy240 : (x5_1.set (x14_1 : Int).toNat (wrap64 ((rd l0 x14_1) - x6_1)) : List Int) = y240 at H
    have Ny240 := Z0.mk hy240.symm
    clear hy240
    have H' := Z0.mk H
    clear H
    obtain ⟨ad235, e235, hx235_0, p235, q235⟩ := atB HB HR0.out x14_1
    cases e235
    have p27 : 0 ≤ (x14_1 : Int) := od
    have q27 : (x14_1 : Int) < ((x5_1.length : Int) : Int) := od
    obtain ⟨go27, co27, eo27, gb27, gl27, cl27, HG27⟩ := Kd.R_form HO_5.out (by omega)
    (first | cases eo27 | (injection eo27 with ea_ en_ ec_; (first | subst ea_ | (injection ea_ with ea_; subst ea_)); subst ec_; clear en_))
    have GB27 := Z0.mk gb27
    have GG27 := Z0.mk HG27
    clear gb27 gl27 HG27
    obtain ⟨hx27_0, hf27_0⟩ := Kd.R_celln 0 HO_5.out (x14_1 : Int) p27 q27
    replace p27 := eq_true p27
    replace q27 := eq_true q27
    have HP28 := Kd.R_putg HO_5.out (x14_1 : Int) (wrap64 ((rd l0 x14_1) - x6_1))
    go_wp2_with (first | ((with_reducible refine gate_store (t := 3) (p := 40) rfl ?_); refine store_event (t := 3) (p := 40) (v := ?vo_w29) (w1 := (wr.setCell ⟨go27, (x14_1 : Int).toNat, none⟩ (.int .i64 (wrap64 ((rd l0 x14_1) - x6_1))))) ?hg ?ho ?hn ?hr ?_; (case ho => rfl); (case hg => rfl); (case hn => rfl); (case hr => first | (go_simp; done) | (go_simp; rfl)); intro w29 hw; have hg : wr.grownBy w29 (some go27) := (by rw [hw]; exact HP28.2); have hp_ : Kd.R (Kd.int .i64) 3 w29 w.heap.size (fun _ => True) (.slice (some ⟨go27, 0, none⟩) x5_1.length co7) y240 := (by rw [hw, Ny240.out]; exact HP28.1); clear HP28; replace HO_5 := Z0.mk (hp_); replace HB := Z0.mk ((by rw [hw]; exact below_set (HB.out) GB27.out : Below w.heap.size w w29)); clear hg hw hp_))
    (try simp only [← hl5_1])
    go_roundg k1
    case measure => have := HK1.out; omega
    case rel => exact ⟨(y240), (0), (wrap64 (x14_1 + 1)), fs, fs, H', ⟨by have := HK1.out; omega⟩, ⟨by (try simp only [hl5_1]); (with_reducible repeat (first | apply Kd.R_alloc | apply Kd.R_drewN | apply Kd.R_drew)); exact HO_5.out⟩, ⟨bqs⟩⟩
   (try (have c8b0_ := c8b0; rw [hl5_1] at c8b0_))
   clear c8
   obtain ⟨t232, A30, H⟩ := bnd H
   obtain rfl := Option.some.inj H
   go_wp2_with (first | ((with_reducible refine gc_ 107 rfl ?_); refine gL 43 Tryz.func107 (bItrim.calls k1 (fun k_ => some k_ = (.slice Ao7 x5_1.length co7 : Value).ownBlock) (.slice Ao7 x5_1.length co7) x5_1 t232 w _ ?side1 ?side2 A30.out) ?_; (case side1 => repeat (first | (with_reducible first | exact HB.out | apply below_alloc | apply pw_below_drewN | apply below_drew1) | exact HB.out)); (case side2 => exact Kd.R_tight rfl HO_5.out); rintro _ w31 ⟨v233, rfl, ho0, hb, hkp⟩; refine ⟨_, rfl, ?_⟩; have HO234 := Z0.mk (Kd.R_mono (ok' := fun k_ => True) ho0 (fun k_ hk_ => trivial)); replace HB := Z0.mk (hb); clear HO_5; clear hb hkp ho0))
   go_ret
   exact ⟨_, fe, rq HO234, bqs⟩
end Go.Proofs.YtinpcbjjnlpblaaGreatDoor.PA
namespace Go.Proofs.YtinpcbjjnlpblaaGreatDoor
set_option linter.unusedVariables false
open Go.RowKit Go.Shelf Go.Proofs.WWords
attribute [local go_sem] Oper.semAt_some
theorem rd_range {B : Int} (hB : 0 < B) {l : List Int} (h : Sv.Digs B l) (i : Int) : 0 ≤ rd l i ∧ rd l i < B := by
 unfold rd
 rw [List.getD_eq_getElem?_getD]
 cases hx : l[i.toNat]? with
 | none => simp; exact hB
 | some x => exact h x (List.mem_of_getElem? hx)
theorem order_in (F : Fence) (n : Nat) (h1 : F.fn 105) (h2 : F.fn 97) (h3 : F.fn 132) (hro : F.round = none) (hn : 3 ≤ n) (A0 : Option Addr) (c0 : Nat) (l0 : List Int) (A1 : Option Addr) (c1 : Nat) (l1 : List Int) (w : World)
  (hr0 : Kd.C (Kd.int .i64) w A0 l0.length l0) (hr1 : Kd.C (Kd.int .i64) w A1 l1.length l1) (he : l0.length = l1.length)
  (hd : ∀ i : Int, -4611686018427387904 ≤ rd l0 i - rd l1 i ∧ rd l0 i - rd l1 i ≤ 4611686018427387904) :
  CallsIn F n Tryz.prog 105 #[.slice A0 l0.length c0, .slice A1 l1.length c1] w fun e w' => e = .returned (.int .i64 (ordAt l0 l1 l0.length)) ∧ Below w.heap.size w w' := by
 have hm0 := Kd.C_max hr0
 have hm1 := Kd.C_max hr1
 have h1' : 1 ≤ n := by omega
 have hen : ((l0.length : Int) != (l1.length : Int)) = false := by rw [he]; simp
 have hE := Lib.hid he
 clear he
 have HD := Lib.hid hd
 clear hd
 refine callsIn_of_wp_marks Tryz.func105 rfl h1 ?_ hro
 simp only [Tryz.ntmps105, List.size_toArray, List.length_cons, List.length_nil, Nat.reduceAdd, Nat.reduceSub, Array.replicate_succ, Array.replicate_zero, List.push_toArray, List.append_toArray, List.nil_append, List.cons_append]
 gi_wp2_with (gi_at_call 97; refine (back_in F (n - 1) h2 hro _ _ _ _).mono ?_; rintro e w' ⟨rfl, rfl⟩)
 obtain ⟨W0, hW0⟩ : ∃ W0, ((w.alloc (.cells #[.slice A1 l1.length c1] 78)).alloc (.cells #[.int .i64 0] 3)).alloc (.cells #[.slice A0 l0.length c0] 78) = W0 := ⟨_, rfl⟩
 have hB0 : Below w.heap.size w W0 := by rw [← hW0]; exact (((Below.refl _ w).alloc (Nat.le_refl _) _).alloc (by simp) _).alloc (by simp; omega) _
 have hs0 : W0.heap.size = w.heap.size + 3 := by rw [← hW0]; simp
 have hby : Boxed W0 w.heap.size 78 (.slice A1 l1.length c1) := by rw [← hW0]; exact ((Boxed.new _ _ _).alloc _).alloc _
 have hbr : Boxed W0 (w.heap.size + 1) 3 (.int .i64 0) := by
  rw [← hW0]; have := (Boxed.new (w.alloc (.cells #[.slice A1 l1.length c1] 78)) 3 (.int .i64 0)).alloc (.cells #[.slice A0 l0.length c0] 78); rwa [World.size_alloc] at this
 have hbs : Boxed W0 (w.heap.size + 1 + 1) 78 (.slice A0 l0.length c0) := by
  rw [← hW0]; have := Boxed.new ((w.alloc (.cells #[.slice A1 l1.length c1] 78)).alloc (.cells #[.int .i64 0] 3)) 78 (.slice A0 l0.length c0); simpa using this
 rw [hW0]
 refine wpIn_rangeFunc_ownF hro h1' (gf := 132) (lb := #[.pointer (some ⟨w.heap.size + 1 + 1, 0, none⟩)]) rfl h3 (enters_of Tryz.func132 (by kernel_rfl) rfl)
  (back_stops F (n - 1) h3 hro (by omega) (w.heap.size + 1 + 1) w.heap.size A0 c0 l0 hm0 W0 hbs (by omega) (fun W' hb => Kd.C_below hr0 (hB0.trans hb))) kb_t (kb_b (by omega) (by omega)) (Below.refl _ _) (fun _ => rfl)
  (fun pre W => ((∀ p ∈ pre, p.1.2 = rd l1 p.1.1) ∧ Boxed W w.heap.size 78 (.slice A1 l1.length c1) ∧ Boxed W (w.heap.size + 1) 3 (.int .i64 0)) ∧ Below w.heap.size w W)
  (fun c pre W => (c = .ret ∧ ∃ pre' x, pre = pre' ++ [x] ∧ (∀ p ∈ pre', p.1.2 = rd l1 p.1.1) ∧ x.1.2 ≠ rd l1 x.1.1 ∧ W.cell? ⟨w.heap.size + 1, 0, none⟩ = some (.int .i64 (x.1.2 - rd l1 x.1.1))) ∧ Below w.heap.size w W)
  (OwnFrom.and (Own.from (fun s A B row hs hg hr => ⟨hs.1, boxed_own _ _ (fun _ => _) s A B row hs.2.1 hg hr, boxed_own _ _ (fun _ => _) s A B row hs.2.2 hg hr⟩) _) (ownFrom_below (Nat.le_refl _) (by omega)))
  (fun c => OwnFrom.and (Own.from (fun s A B row hs hg hr => by obtain ⟨h, p, x, e1, e2, e3, e4⟩ := hs; exact ⟨h, p, x, e1, e2, e3, cell_kept e4 hg hr⟩) _) (ownFrom_below (Nat.le_refl _) (by omega)))
  ⟨⟨by simp, hby, hbr⟩, hB0⟩
  ?act1 ?assign ?body ?done ?stop
 case assign =>
  intro l x W K hK
  simp only [enc2]
  gi_wp2
  exact hK
 case body =>
  rintro l pre x W ⟨⟨hp, hy, hr⟩, hB⟩ _
  have hl1 := hE.out
  have hx0 := x.2.1
  have hx1 := x.2.2.1
  have hxd := HD.out x.1.1
  rw [← x.2.2.2] at hxd
  obtain ⟨⟨i, v⟩, hx⟩ := x
  simp only at hx0 hx1 hxd
  obtain ⟨ad, rfl, hcx⟩ := Kd.at_int (Kd.C_below hr1 hB) i hx0 (by omega)
  have hyc := hy.cell
  have hrc := hr.cell
  have hrf := hr.frozen
  have hi1 : i < (l1.length : Int) := by omega
  clear hl1
  obtain ⟨q, hq⟩ : ∃ q, rd l1 i = q := ⟨_, rfl⟩
  rw [hq] at hcx hxd
  have HQ := Lib.hid hq
  clear hq
  have hxd1 := hxd.1
  have hxd2 := hxd.2
  gi_wp2
  ·rename_i hne
   have hne' : v ≠ q := by simpa using hne
   refine ⟨KeepsOthers.setCell _ _ _, ⟨rfl, pre, _, rfl, hp, by rw [HQ.out]; exact hne', ?_⟩, hB.setCell (p := ⟨w.heap.size + 1, 0, none⟩) (by simp) _⟩
   rw [HQ.out]
   exact World.cell?_setCell_same' _ _ _ (by rw [hrc]; rfl)
  rename_i hne
  have hne' : v = q := by simpa using hne
  refine ⟨KeepsOthers.refl _, KB.refl _ _ _, ⟨fun p hm => ?_, hy, hr⟩, hB⟩
  rcases List.mem_append.1 hm with hm | hm
  ·exact hp p hm
  rw [List.mem_singleton] at hm
  rw [hm, HQ.out]
  exact hne'
 case done =>
  rintro D ys W hD rfl ⟨⟨hp, hy, hr⟩, hB⟩ hK
  have hrc := hr.cell
  have hrf := hr.frozen
  have hfin : ordAt l0 l1 l0.length = 0 := by
   have key : ∀ k : Nat, k ≤ l0.length → ordAt l0 l1 k = 0 := by
    intro k
    induction k with
    | zero => intro _; rfl
    | succ k ih =>
     intro hk
     have := hp (⟨((k : Int), rd l0 k), by simp only; omega, by simp only; omega, rfl⟩) ((bk_mem (Nat.le_refl _) _).2 (by simp only; omega))
     simp only at this
     rw [ordAt, if_pos this, ih (by omega)]
   exact key _ (Nat.le_refl _)
  have HF := Lib.hid hfin
  clear hfin
  gi_wp2
  have hK' := (KeepsOthers.setCell W ⟨w.heap.size + 1, 0, none⟩ (.int .i64 0)).same D _ hK rfl
  refine ⟨by simp, .inl ⟨_, _, rfl, run_takeDeferred hK', ?_⟩⟩
  have hc5 := cell_kept (World.cell?_setCell_same' W ⟨w.heap.size + 1, 0, none⟩ (.int .i64 0) (by rw [hrc]; rfl)) (grownBy_putObj' _ D (.deferred none)) (fun r e => by cases e; exact ⟨_, hK', rfl⟩)
  refine ⟨.int .i64 0, ?_, by rw [HF.out], (hB.setCell (p := ⟨w.heap.size + 1, 0, none⟩) (by simp) _).trans (belowK_b (w := w) (Nat.le_refl _) _ D _ _ (by omega) hK' rfl rfl)⟩
  simp [results, Tryz.f105, go_sem, hc5]
 case stop =>
  rintro D c pre W hD ⟨k, hk, rfl⟩ ⟨⟨rfl, pre', x, hpre, hp, hne, hrc⟩, hB⟩ hK
  rw [bk_succ _ _ hk] at hpre
  obtain ⟨rfl, rfl⟩ : bk l0 k = pre' ∧ bkx l0 k hk = x := by
   have h2 := List.append_inj' hpre rfl
   exact ⟨h2.1, by simpa using h2.2⟩
  have hfin : ordAt l0 l1 l0.length = (bkx l0 k hk).1.2 - rd l1 (bkx l0 k hk).1.1 := by
   have key : ∀ j : Nat, j ≤ k → ordAt l0 l1 l0.length = ordAt l0 l1 (l0.length - j) := by
    intro j
    induction j with
    | zero => intro _; rfl
    | succ j ih =>
     intro hj
     rw [ih (by omega)]
     have e : l0.length - j = (l0.length - (j + 1)) + 1 := by omega
     have := hp (⟨(((l0.length - (j + 1) : Nat) : Int), rd l0 ((l0.length - (j + 1) : Nat) : Int)), by simp only; omega, by simp only; omega, rfl⟩) ((bk_mem (by omega) _).2 (by simp only; omega))
     simp only at this
     rw [e, ordAt, if_pos this]
   have e : l0.length - k = (l0.length - (k + 1)) + 1 := by omega
   have e2 : (l0.length : Int) - 1 - k = ((l0.length - (k + 1) : Nat) : Int) := by omega
   simp only [bkx, e2] at hne ⊢
   rw [key k (Nat.le_refl _), e, ordAt, if_neg hne]
  rw [← hfin] at hrc
  clear hfin hne hp
  gi_wp2
  refine ⟨by simp, .inl ⟨_, _, rfl, run_takeDeferred hK, ?_⟩⟩
  have hc5 := cell_kept hrc (grownBy_putObj' _ D (.deferred none)) (fun r e => by cases e; exact ⟨_, hK, rfl⟩)
  refine ⟨.int .i64 (ordAt l0 l1 l0.length), ?_, rfl, hB.trans (belowK_b (w := w) (Nat.le_refl _) W D _ _ (by omega) hK rfl rfl)⟩
  simp [results, Tryz.f105, go_sem, hc5]
theorem digs_sub {x y : List Int} (hx : Sv.Digs Sv.LB x) (hy : Sv.Digs Sv.LB y) (i : Int) : -4611686018427387904 ≤ rd x i - rd y i ∧ rd x i - rd y i ≤ 4611686018427387904 := by
 have h1 := rd_range (by decide) hx i
 have h2 := rd_range (by decide) hy i
 have : Sv.LB = 1000000000 := rfl
 omega
theorem bIorder.calls (A0 : Option Addr) (c0 : Nat) (l0 : List Int) (A1 : Option Addr) (c1 : Nat) (l1 : List Int) (r : Int) (w : World) (hr0 : Kd.C (Kd.int .i64) w A0 l0.length l0) (hc0 : l0.length ≤ c0) (hr1 : Kd.C (Kd.int .i64) w A1 l1.length l1) (hc1 : l1.length ≤ c1) (h : bIorder.f l0 l1 = some r) :
  Calls Tryz.prog 105 #[.slice A0 l0.length c0, .slice A1 l1.length c1] w fun e w' => e = .returned (.int .i64 r) ∧ Below w.heap.size w w' := by
 unfold bIorder.f at h
 by_cases hd : Sv.Digs Sv.LB l0 ∧ Sv.Digs Sv.LB l1 ∧ l0.length ≤ 4611686018427387904 ∧ l1.length ≤ 4611686018427387904
 ·rw [if_pos hd] at h
  obtain rfl := Option.some.inj h
  by_cases he : l0.length = l1.length
  ·rw [if_pos he]
   exact (callsIn_wide (n := 3)).1 (order_in Fence.wide 3 trivial trivial trivial rfl (by omega) A0 c0 l0 A1 c1 l1 w hr0 hr1 he (digs_sub hd.1 hd.2.1))
  rw [if_neg he]
  have hen : ((l0.length : Int) != (l1.length : Int)) = true := by rw [bne_iff_ne]; omega
  have h1 := hd.2.2.1
  have h2 := hd.2.2.2
  have hz := run_underlying (P := Tryz.prog) Tryz.underlying3
  clear hd h he
  go_enter Tryz.func105, Tryz.ntmps105
  go_wp2
  refine bodyPost_ret (v := .int .i64 ((l0.length : Int) - l1.length)) ?_ rfl ⟨rfl, ?_⟩
  ·simp [results, Tryz.f105, go_sem]
  exact ((Below.refl _ w).alloc (Nat.le_refl _) _).alloc (by simp) _
 rw [if_neg hd] at h
 cases h
end Go.Proofs.YtinpcbjjnlpblaaGreatDoor
