import Derived.Test.YtihbebbabjklkaaGreatDoorAD
import Derived.RangeFuncNested
import Derived.RangeFuncBound
import Derived.RangeFuncCalls
import Derived.RangeFuncLeaves
import Derived.Shelf.Abstract
import Derived.Shelf.RegionOpen
import Derived.WalkKit
import Derived.OwnWalkIn
import Derived.TacticsInMore
import Derived.LoopNIn
import Derived.LoopIn
import Derived.Test.YtihbebbabjklkaaGreatDoorProg
import Derived.Test.YtihbebbabjklkaaGreatDoorAW
import Derived.Test.YtihbebbabjklkaaGreatDoorAG1
import Derived.Lib.AtoiErrMem
import Derived.Lib.Hide
import Derived.Shelf.SlIter.Collect
import Derived.Shelf.SlIterI.Collect
import Derived.LoopN
import Derived.Deep.RegionHeld3
import Derived.WideLaws
import Derived.Shelf.Strings.BuilderK
set_option maxHeartbeats 8000000
set_option maxRecDepth 100000
set_option linter.unusedVariables false
namespace Go.Proofs.YtihbebbabjklkaaGreatDoor
set_option linter.unusedVariables false
open Go.RowKit Go.Shelf Go.Proofs.WWords
attribute [local go_sem] Oper.semAt_some
theorem bk_succ (zs : List Int) (k : Nat) (h : k < zs.length) : bk zs (k + 1) = bk zs k ++ [bkx zs k h] := by simp [bk, h]
theorem bk_length (zs : List Int) (k : Nat) (h : k ≤ zs.length) : (bk zs k).length = k := by
 induction k with
 | zero => rfl
 | succ k ih => rw [bk_succ zs k (by omega)]; simp [ih (by omega)]
theorem bk_mem {zs : List Int} {k : Nat} (h : k ≤ zs.length) (x : BkT zs) : x ∈ bk zs k ↔ (zs.length : Int) - k ≤ x.1.1 := by
 induction k with
 | zero => simp [bk]; have := x.2; omega
 | succ k ih =>
  rw [bk_succ zs k (by omega), List.mem_append, ih (by omega), List.mem_singleton]
  constructor
  ·rintro (h | h)
   ·omega
   rw [h]; simp only [bkx]; omega
  intro h
  by_cases e : (zs.length : Int) - k ≤ x.1.1
  ·exact .inl e
  right
  have h2 := x.2
  have h3 : x.1.1 = (zs.length : Int) - 1 - k := by omega
  apply Subtype.ext
  apply Prod.ext
  ·exact h3
  rw [h2.2.2, h3]; rfl
def enc2 {zs : List Int} (x : BkT zs) : Array Value := #[.int .i64 x.1.1, .int .i64 x.1.2]
def KB (n₀ Bs : Nat) (W W' : World) : Prop := Below n₀ W W' ∧ (Bs < W.heap.size → W'.heap[Bs]? = W.heap[Bs]?)
theorem KB.refl (n₀ Bs : Nat) (W : World) : KB n₀ Bs W W := ⟨Below.refl _ _, fun _ => rfl⟩
theorem KB.trans {n₀ Bs : Nat} {A B C : World} (h : KB n₀ Bs A B) (k : KB n₀ Bs B C) : KB n₀ Bs A C :=
 ⟨h.1.trans k.1, fun hb => (k.2 (Nat.lt_of_lt_of_le hb h.1.size)).trans (h.2 hb)⟩
theorem KB.setCell {n₀ Bs : Nat} {A W : World} (h : KB n₀ Bs A W) {p : Addr} (h0 : n₀ ≤ p.block) (h1 : p.block ≠ Bs) (v : Value) : KB n₀ Bs A (W.setCell p v) :=
 ⟨h.1.setCell h0 v, fun hb => (Below.heap_setCell W p v Bs (Ne.symm h1)).trans (h.2 hb)⟩
theorem KB.alloc {n₀ Bs : Nat} {A W : World} (h : KB n₀ Bs A W) (hn : n₀ ≤ W.heap.size) (o : Obj) : KB n₀ Bs A (W.alloc o) :=
 ⟨h.1.alloc hn o, fun hb => (Below.heap_alloc W o Bs (Nat.lt_of_lt_of_le hb h.1.size)).trans (h.2 hb)⟩
theorem KB.drew {n₀ Bs : Nat} {A W : World} (h : KB n₀ Bs A W) : KB n₀ Bs A W.drew := ⟨h.1.drew, h.2⟩
theorem KB.below {n₀ Bs : Nat} {A W W' : World} (h : KB n₀ Bs A W) (hb : Below W.heap.size W W') (hn : n₀ ≤ W.heap.size) : KB n₀ Bs A W' :=
 ⟨h.1.trans (hb.mono hn), fun h1 => (hb.block Bs (Nat.lt_of_lt_of_le h1 h.1.size)).trans (h.2 h1)⟩
theorem KB.grown {n₀ Bs : Nat} {A W W' : World} {row : Option Nat} (h : KB n₀ Bs A W) (hg : W.grownBy W' row) (hn : n₀ ≤ W.heap.size) (hr : ∀ k, row = some k → n₀ ≤ k ∧ k ≠ Bs) : KB n₀ Bs A W' :=
 ⟨h.1.grown hg hn (fun k e => (hr k e).1), fun h1 => (hg.block Bs (Nat.lt_of_lt_of_le h1 h.1.size) (fun e => (hr Bs e.symm).2 rfl)).trans (h.2 h1)⟩
theorem kb_t {n₀ Bs : Nat} {A B C : World} (h : KB n₀ Bs A B) (k : KB n₀ Bs B C) : KB n₀ Bs A C := h.trans k
theorem kb_b {n₀ Bs : Nat} {w : World} (hn : n₀ ≤ w.heap.size) (hs : Bs < w.heap.size) (W : World) (l : Nat) (o o' : Obj) (hl : w.heap.size ≤ l) (h : W.heap[l]? = some o) (h1 : o.isCells = false) (h2 : o.isWalk = false) : KB n₀ Bs W (W.putObj l o') :=
 ⟨belowK_b hn W l o o' hl h h1 h2, fun _ => World.putObj_heap_other (by omega)⟩
theorem back1_in (F : Fence) (n : Nat) (h7 : F.fn 182) (hro : F.round = none) (hn : 1 ≤ n) (l Bs n₀ : Nat) (A : Option Addr) (cap : Nat) (zs : List Int) (hm : zs.length ≤ 9223372036854775807) (J Jx : List (BkT zs) → World → Prop)
  (hY : ∀ pre x W, J pre W → pre.length < zs.length → YieldAt F (n - 1) Tryz.prog l (enc2 x) W fun e W' =>
   (e = .returned (.bool true) ∧ J (pre ++ [x]) W' ∧ KB n₀ Bs W W') ∨ (e = .returned (.bool false) ∧ Jx (pre ++ [x]) W'))
  (W : World) (hBs : Boxed W Bs 35 (.slice A zs.length cap)) (hc : ∀ W', Below n₀ W W' → Kd.C (Kd.int .i64) W' A zs.length zs) (h0 : J [] W) :
  CallsIn F n Tryz.prog 182 #[.func (.yield l) #[] #[], .pointer (some ⟨Bs, 0, none⟩)] W fun e W' => (∃ v, e = .returned v) ∧
   ((∃ ys, ys = bk zs zs.length ∧ J ys W') ∨ (∃ pre, (∃ k, k < zs.length ∧ pre = bk zs (k + 1)) ∧ Jx pre W')) := by
 have hBc := hBs.cell
 refine callsIn_of_wp Tryz.func182 rfl h7 ?_ hro
 simp only [Tryz.ntmps182, List.size_toArray, List.length_cons, List.length_nil, Nat.reduceAdd, Nat.reduceSub, Array.replicate_succ, Array.replicate_zero, List.push_toArray, List.append_toArray, List.nil_append, List.cons_append]
 gi_wp2
 gi_loopw [3] (fun i wr => ∃ k : Nat, k ≤ zs.length ∧ i = .int .i64 ((zs.length : Int) - 1 - k) ∧ J (bk zs k) wr ∧ KB n₀ Bs W wr)
  (fun i _ => ((Go.RowKit.intOf i) + 1).toNat)
 case atStart => exact ⟨0, Nat.zero_le _, by simp, h0, KB.refl _ _ _⟩
 case round =>
  obtain ⟨k, hk, rfl, hJs, hnx⟩ := hrel
  have hBs' : wr.cell? ⟨Bs, 0, none⟩ = some (.slice A zs.length cap) := (show Boxed wr Bs 35 _ from (hnx.2 hBs.lt).trans hBs).cell
  by_cases hlt : k < zs.length
  ·obtain ⟨ad, rfl, hcx⟩ := Kd.at_int (hc wr hnx.1) ((zs.length : Int) - 1 - k) (by omega) (by omega)
   obtain ⟨fn, tmps, assign, body, hy, hR⟩ := hY _ (bkx zs k hlt) wr hJs (by rw [bk_length _ _ hk]; exact hlt)
   dsimp only [enc2, bkx] at hy
   have hcy : wr.cell? (ad.add (zs.length - 1 - k)) = some (.int .i64 (rd zs ((zs.length : Int) - 1 - k))) := by
    have : ((zs.length : Int) - 1 - k).toNat = zs.length - 1 - k := by omega
    rw [← this]; exact hcx
   clear hcx
   gi_wp2
   refine hR.mono ?_
   rintro e W3 (⟨rfl, hJ3, hk3⟩ | ⟨rfl, hJx3⟩)
   ·gi_wp2
    go_roundw
    case rel => exact ⟨k + 1, by omega, by go_num, by rw [bk_succ _ _ hlt]; exact hJ3, hnx.trans hk3⟩
    case measure => simp [Go.RowKit.intOf]; omega
   gi_wp2
   refine bodyPost_ret (results_none rfl _ _ _) rfl ?_
   exact ⟨⟨_, rfl⟩, .inr ⟨_, ⟨k, hlt, rfl⟩, by rw [bk_succ _ _ hlt]; exact hJx3⟩⟩
  obtain rfl : k = zs.length := by omega
  gi_wp2
  go_end0
  exact ⟨⟨_, rfl⟩, .inl ⟨_, rfl, hJs⟩⟩
theorem back_stops (F : Fence) (n : Nat) (h7 : F.fn 182) (hro : F.round = none) (hn : 1 ≤ n) (Bs n₀ : Nat) (A : Option Addr) (cap : Nat) (zs : List Int) (hm : zs.length ≤ 9223372036854775807) (w : World)
  (hBs : Boxed w Bs 35 (.slice A zs.length cap)) (hn₀ : n₀ ≤ w.heap.size) (hc : ∀ W', Below n₀ w W' → Kd.C (Kd.int .i64) W' A zs.length zs) :
  SeqStopsK F n Tryz.prog 182 #[.pointer (some ⟨Bs, 0, none⟩)] enc2 (KB n₀ Bs) (fun ys => ys = bk zs zs.length) (fun pre => ∃ k, k < zs.length ∧ pre = bk zs (k + 1)) zs.length w := fun l J Jx W hW _ _ hY h0 =>
 back1_in F n h7 hro hn l Bs n₀ A cap zs hm J Jx hY W ((hW.block Bs hBs.lt).trans hBs) (fun W' hb => hc W' ((hW.mono hn₀).trans hb)) h0
theorem back_in (F : Fence) (n : Nat) (h5 : F.fn 134) (hro : F.round = none) (a : Option Addr) (len cap : Nat) (w : World) :
  CallsIn F n Tryz.prog 134 #[.slice a len cap] w fun e w' => e = .returned (.func (.func 182) #[] #[.pointer (some ⟨w.heap.size, 0, none⟩)]) ∧ w' = w.alloc (.cells #[.slice a len cap] 35) := by
 refine callsIn_of_wp Tryz.func134 rfl h5 ?_ hro
 simp only [Tryz.ntmps134, List.size_toArray, List.length_cons, List.length_nil, Nat.reduceAdd, Nat.reduceSub, Array.replicate_succ, Array.replicate_zero, List.push_toArray, List.append_toArray, List.nil_append, List.cons_append]
 gi_wp2
 go_ret
 exact ⟨rfl, rfl⟩
theorem gk_length (ds : List Int) (k : Nat) : (gk ds k).length = k := by
 induction k with
 | zero => rfl
 | succ k ih => simp [gk, ih]
theorem AllD.digs {l : List UInt8} (h : AllD l) : Sv.Digs 10 (l.reverse.map Sv.chd) := by
 intro d hd
 obtain ⟨c, hc, rfl⟩ := List.mem_map.1 hd
 have := h c (by simpa using hc)
 unfold Sv.chd
 omega
theorem valN_cons (c : UInt8) (t : List UInt8) : Sv.valN (c :: t) = Sv.valN t + 10 ^ t.length * Sv.chd c := by
 unfold Sv.valN
 rw [List.reverse_cons, List.map_append, Sv.vl_append]
 simp [Sv.vl]
theorem valN_nonneg {l : List UInt8} (h : AllD l) : 0 ≤ Sv.valN l := Sv.vl_nonneg (by decide) h.digs
theorem decFrom_valN : ∀ (l : List UInt8) (acc : Nat), AllD l → Lib.decFrom acc l = some (acc * 10 ^ l.length + (Sv.valN l).toNat) := by
 intro l
 induction l with
 | nil => intro acc _; simp [Lib.decFrom, Sv.valN, Sv.vl]
 | cons c t ih =>
  intro acc h
  have hc := h c (by simp)
  have ht : AllD t := fun x hx => h x (by simp [hx])
  have hd : Lib.digitVal c = some (c.toNat - 48) := by
   unfold Lib.digitVal
   simp [hc.1, hc.2]
  rw [Lib.decFrom, hd]
  simp only
  rw [ih _ ht, valN_cons]
  have h0 := valN_nonneg ht
  have e : Sv.chd c = ((c.toNat - 48 : Nat) : Int) := by unfold Sv.chd; omega
  obtain ⟨v, hv⟩ : ∃ v : Nat, Sv.valN t = v := ⟨(Sv.valN t).toNat, by omega⟩
  rw [e, hv]
  congr 1
  have e2 : ((v : Int) + 10 ^ t.length * ((c.toNat - 48 : Nat) : Int)).toNat = v + 10 ^ t.length * (c.toNat - 48) := by
   have : ((v : Int) + 10 ^ t.length * ((c.toNat - 48 : Nat) : Int)) = ((v + 10 ^ t.length * (c.toNat - 48) : Nat) : Int) := by push_cast; rfl
   rw [this, Int.toNat_natCast]
  rw [e2, List.length_cons, Nat.pow_succ, Int.toNat_natCast]
  generalize 10 ^ t.length = p
  generalize c.toNat - 48 = q
  grind
theorem atoi_valN {l : List UInt8} (h : AllD l) (hne : l ≠ []) : Lib.atoi l = some (Sv.valN l) := by
 cases l with
 | nil => exact absurd rfl hne
 | cons c t =>
  have hc := h c (by simp)
  have h45 : (c == 45) = false := by
   rw [beq_eq_false_iff_ne]; rintro rfl; have := hc.1; simp at this
  have h43 : (c == 43) = false := by
   rw [beq_eq_false_iff_ne]; rintro rfl; have := hc.1; simp at this
  have h0 := valN_nonneg h
  rw [Lib.atoi, h45, h43]
  simp only [Bool.false_eq_true, if_false]
  rw [Lib.decNat]
  simp only [List.isEmpty_cons, Bool.false_eq_true, if_false]
  rw [decFrom_valN _ _ h]
  simp
  omega
theorem sub_valN (l : List UInt8) (k : Nat) (h : 9 * k < l.length) : Sv.valN ((l.take (l.length - 9 * k)).drop (l.length - 9 * k - 9)) = Sv.vl 10 (((l.reverse.map Sv.chd).drop (9 * k)).take 9) := by
 unfold Sv.valN
 rw [← List.map_drop, ← List.map_take]
 congr 2
 rw [List.drop_reverse, List.take_reverse, List.length_take]
 congr 1
 congr 1
 omega
theorem sub_alld {l : List UInt8} (h : AllD l) (i j : Nat) : AllD ((l.take j).drop i) := fun c hc => h c (List.mem_of_mem_take (List.mem_of_mem_drop hc))
theorem chk1_in (n : Nat) (hn : 1 ≤ n) (l Bs n₀ : Nat) (a0 : ByteArray) (m : Nat) (hm1 : a0.size ≤ 9 * m) (hm2 : 9 * m < a0.size + 9) (hdig : AllD a0.data.toList) (hm : a0.size ≤ 4611686018427387904) (J Jx : List Int → World → Prop) (W : World) (hn₀ : n₀ ≤ W.heap.size) (hJ : AbidesFrom W.heap.size J)
    (hY : ∀ pre x W, J pre W → pre.length < m → YieldAt Fence.wide (n - 1) Tryz.prog l #[.int .i64 x] W fun e W' =>
      (e = .returned (.bool true) ∧ J (pre ++ [x]) W' ∧ KB n₀ Bs W W') ∨ (e = .returned (.bool false) ∧ Jx (pre ++ [x]) W'))
    (hBs : Boxed W Bs 9 (.string a0)) (h0 : J [] W) :
    CallsIn Fence.wide n Tryz.prog 203 #[.func (.yield l) #[] #[], .pointer (some ⟨Bs, 0, none⟩)] W fun e W' => (∃ v, e = .returned v) ∧
      ((∃ ys, ys = gk (dl a0) m ∧ J ys W') ∨ (∃ pre, (∃ k, k < m ∧ pre = gk (dl a0) (k + 1)) ∧ Jx pre W')) := by
 have hBc := hBs.cell
 have hf194 : Fence.wide.fn 204 := trivial
 refine callsIn_of_wp Tryz.func203 rfl trivial ?_ rfl
 simp only [Tryz.ntmps203, List.size_toArray, List.length_cons, List.length_nil, Nat.reduceAdd, Nat.reduceSub, Array.replicate_succ, Array.replicate_zero, List.push_toArray, List.append_toArray, List.nil_append, List.cons_append]
 gi_wp2
 gi_loopw [3] (fun i wr => ∃ k : Nat, k ≤ m ∧ i = .int .i64 ((a0.size : Int) - 9 * k) ∧ J (gk (dl a0) k) wr ∧ KB n₀ Bs W wr)
  (fun i _ => match i with | .int _ z => (z + 9).toNat | _ => 0)
 case atStart => exact ⟨0, Nat.zero_le _, by simp, h0, KB.refl _ _ _⟩
 case round =>
  obtain ⟨k, hk, rfl, hJs, hnx⟩ := hrel
  have hBs' : wr.cell? ⟨Bs, 0, none⟩ = some (.string a0) := (show Boxed wr Bs 9 _ from (hnx.2 hBs.lt).trans hBs).cell
  by_cases hlt : k < m
  ·obtain ⟨hi, hhi⟩ : ∃ hi : Nat, (a0.size : Int) - 9 * k = hi := ⟨a0.size - 9 * k, by omega⟩
   rw [hhi]
   have hpos : 0 < hi := by omega
   have hle : hi ≤ a0.size := by omega
   obtain ⟨lo, hlo⟩ : ∃ lo : Nat, lo = hi - 9 := ⟨_, rfl⟩
   have hmx : max (0 : Int) ((hi : Int) - 9) = (lo : Int) := by omega
   have hlh : lo ≤ hi := by omega
   obtain ⟨z, hz⟩ : ∃ z, Sv.vl 10 (((dl a0).drop (9 * k)).take 9) = z := ⟨_, rfl⟩
   have hlen : a0.data.toList.length = a0.size := rfl
   have hex : (a0.extract lo hi).data.toList = (a0.data.toList.take hi).drop lo := by simp [ByteArray.data_extract, Array.toList_extract, List.extract_eq_take_drop, List.drop_take]
   have hsz : (a0.extract lo hi).size ≤ 18 := by
    have e1 : (a0.extract lo hi).size = (a0.extract lo hi).data.toList.length := rfl
    rw [e1, hex, List.length_drop, List.length_take]
    omega
   have hat : Lib.atoi (a0.extract lo hi).data.toList = some z := by
    have e1 : hi = a0.data.toList.length - 9 * k := by omega
    have e2 : lo = a0.data.toList.length - 9 * k - 9 := by omega
    rw [hex, atoi_valN (sub_alld hdig _ _) (by intro e; have := congrArg List.length e; rw [List.length_drop, List.length_take, List.length_nil] at this; omega), e1, e2, sub_valN _ _ (by omega)]; rw [← hz]; rfl
   have hgk : gk (dl a0) (k + 1) = gk (dl a0) k ++ [z] := by rw [gk, hz]
   have HE := Lib.hid hhi
   have HG := Lib.hid hgk
   clear hhi hlo hex hz hgk hlen
   gi_wp2_with (gi_at_call 204; refine (callsIn_wide.2 (Tryz.strconv_Atoi (a0.extract lo hi) z hsz hat wr)).mono ?_; rintro e W2 ⟨rfl, t', ht⟩
                have hb2 : Below wr.heap.size wr W2 := by rw [ht]; exact Lib.bytesWorld_below wr 5 t'
                clear ht
                have hJ2 := hJ _ wr W2 none hJs ⟨hb2.os, hb2.tape, hb2.output, hb2.size, fun j hj _ => hb2.block j hj⟩ (fun r e => by cases e)
                have hn2 := hnx.below hb2 (Nat.le_trans hn₀ hnx.1.size)
                obtain ⟨fn, tmps, assign, body, hy, hR⟩ := hY _ z W2 hJ2 (by rw [gk_length]; exact hlt))
   refine hR.mono ?_
   rintro e W3 (⟨rfl, hJ3, hk3⟩ | ⟨rfl, hJx3⟩)
   ·gi_wp2
    go_roundw
    case rel => exact ⟨k + 1, by omega, by have := HE.out; go_num, by rw [HG.out]; exact hJ3, hn2.trans hk3⟩
    case measure => dsimp only; omega
   gi_wp2
   refine bodyPost_ret (results_none rfl _ _ _) rfl ?_
   exact ⟨⟨_, rfl⟩, .inr ⟨_, ⟨k, hlt, rfl⟩, by rw [HG.out]; exact hJx3⟩⟩
  obtain rfl : k = m := by omega
  have hnp : ¬ (0 : Int) < (a0.size : Int) - 9 * k := by omega
  gi_wp2
  go_end0
  exact ⟨⟨_, rfl⟩, .inl (by first | exact ⟨_, rfl, hJs⟩ | exact hJs)⟩
theorem chk_stops (n : Nat) (hn : 1 ≤ n) (Bs n₀ : Nat) (a0 : ByteArray) (m : Nat) (hm1 : a0.size ≤ 9 * m) (hm2 : 9 * m < a0.size + 9) (hdig : AllD a0.data.toList) (hm : a0.size ≤ 4611686018427387904) (w : World) (hn₀ : n₀ ≤ w.heap.size) (hBs : Boxed w Bs 9 (.string a0)) :
    SeqStopsK Fence.wide n Tryz.prog 203 #[.pointer (some ⟨Bs, 0, none⟩)] (fun x : Int => #[.int .i64 x]) (KB n₀ Bs) (fun ys => ys = gk (dl a0) m) (fun pre => ∃ k, k < m ∧ pre = gk (dl a0) (k + 1)) m w := fun l J Jx W hW hJ _ hY h0 =>
  chk1_in n hn l Bs n₀ a0 m hm1 hm2 hdig hm J Jx W (Nat.le_trans hn₀ hW.size) hJ hY ((hW.block Bs hBs.lt).trans hBs) h0
def ApI (w : World) (pre : List Int) (W : World) : Prop :=
  ∃ v, W.heap[w.heap.size]? = some (.cells #[v] 35 (0, 0)) ∧ W.ownsRow w.heap.size 3 1 v pre.length (pre.map encZ)
theorem ApI.own (w : World) : Own (ApI w) := fun s A B row hs hg hr => by
  obtain ⟨v, h1, h2⟩ := hs
  refine ⟨v, ?_, ?_⟩
  · refine (hg.block _ (Array.getElem?_eq_some_iff.1 h1).1 (fun e => ?_)).trans h1
    obtain ⟨o, ho, hc⟩ := hr _ e.symm
    rw [h1] at ho
    cases ho
    cases hc
  · cases row with
    | none =>
      refine h2.kept hg ?_
      cases hv : v.ownBlock with
      | none => exact .inl rfl
      | some k => exact .inr (by simp)
    | some r =>
      obtain ⟨o, ho, hc⟩ := hr r rfl
      exact h2.kept hg (ownsRow_ne_a h2 ho (fun cur e => by rw [e] at hc; cases hc))
theorem append_in (n : Nat) (hn : 3 ≤ n) (Bs : Nat) (a0 : ByteArray) (m : Nat) (hm1 : a0.size ≤ 9 * m) (hm2 : 9 * m < a0.size + 9) (hdig : AllD a0.data.toList) (hm : a0.size ≤ 4294967296) (w : World) (hBs : Boxed w Bs 9 (.string a0)) :
    CallsIn Fence.wide n Tryz.prog 202 #[.slice none 0 0, .func (.func 203) #[] #[.pointer (some ⟨Bs, 0, none⟩)]] w fun e w' => ∃ v, e = .returned v ∧ w'.ownsRow w.heap.size 3 1 v m ((gk (dl a0) m).map encZ) ∧ Below w.heap.size w w' := by
 have hBl := hBs.lt
 have h1' : 1 ≤ n := by omega
 refine callsIn_of_wp_marks Tryz.func202 rfl trivial ?_ rfl
 simp only [Tryz.ntmps202, List.size_toArray, List.length_cons, List.length_nil, Nat.reduceAdd, Nat.reduceSub, Array.replicate_succ, Array.replicate_zero, List.push_toArray, List.append_toArray, List.nil_append, List.cons_append]
 gi_wp2
 obtain ⟨W0, hW0⟩ : ∃ W0, w.alloc (.cells #[.slice none 0 0] 35) = W0 := ⟨_, rfl⟩
 have hB0 : Below w.heap.size w W0 := by rw [← hW0]; exact (Below.refl _ w).alloc (Nat.le_refl _) _
 have hs0 : W0.heap.size = w.heap.size + 1 := by rw [← hW0]; simp
 have hb0 : W0.heap[w.heap.size]? = some (.cells #[.slice none 0 0] 35 (0, 0)) := by rw [← hW0]; exact Boxed.new _ _ _
 have hBs0 : Boxed W0 Bs 9 (.string a0) := (hB0.block Bs hBl).trans hBs
 rw [hW0]
 refine wpIn_rangeFunc_ownF rfl h1' (gf := 203) (lb := #[.pointer (some ⟨Bs, 0, none⟩)]) rfl trivial (enters_of Tryz.func203 (by kernel_rfl) rfl)
  (chk_stops (n - 1) (by omega) Bs w.heap.size a0 m hm1 hm2 hdig (by omega) W0 (by omega) hBs0) kb_t (kb_b (by omega) (by omega)) (Below.refl _ _) (fun _ => rfl)
  (fun pre W => ApI w pre W ∧ Below w.heap.size w W) (fun c pre W => False)
  (OwnFrom.and (Own.from (ApI.own w) _) (ownFrom_below (Nat.le_refl _) (by omega)))
  (fun c s A B row hs hg hr => hs) ⟨⟨_, hb0, World.ownsRow_nil _ _ _ _⟩, hB0⟩
  ?act1 ?assign ?body ?done ?stop
 case assign =>
  intro l x W K hK
  gi_wp2
  exact hK
 case body =>
  rintro l pre x W ⟨⟨v, hb, hr⟩, hB⟩ hlen
  obtain ⟨hbc, hbf⟩ := cell_of_box_a hb
  have hbl := (Array.getElem?_eq_some_iff.1 hb).1
  have hbk : some w.heap.size ≠ v.ownBlock := fun e => by
   rcases ownsRow_ne_a hr hb (fun cur e => by cases e) with h | h
   ·rw [h] at e; cases e
   exact h e.symm
  obtain ⟨i0, hi, hz0, hz1, hz2⟩ := info_parts (show (Tryz.prog.info? 3).map (fun i => (i.zero, i.size, i.bytes)) = some (some (.int .i64 0), 1, 8) by kernel_rfl)
  gi_wp2_with (first
    | (gi_at_builtin; refine wpListIn_append_own _ rfl _ _ 35 rfl w.heap.size 3 i0 (.int .i64 0) 1 8 Tryz.underlying35 hi hz0 hz1 hz2 rfl (by decide) v pre.length (pre.map encZ) rfl (hr.alloc _) ⟨W.heap.size, 0, none⟩ 1 1 [encZ x] rfl rfl (cell_one_new _ _ _) (by simp [Value.oneCell', encZ]) (by simp only [maxLen]; omega) (by omega) (by have := hB.size; simp; omega) ?_; intro v' w3 hown' hg3 hnil3
       have hb3 : w3.heap[w.heap.size]? = some (.cells #[v] 35 (0, 0)) := (hg3.block _ (by simp; omega) hbk).trans ((Below.heap_alloc _ _ _ hbl).trans hb)
       obtain ⟨hc3, hf3⟩ := cell_of_box_a hb3
       obtain ⟨g', cap', rfl⟩ : ∃ g' cap', v' = .slice (some ⟨g', 0, none⟩) (pre.length + 1) cap' := by
         rcases hown'.2 with ⟨_, h0⟩ | ⟨g', cap', cur', h', _⟩
         · omega
         · exact ⟨g', cap', h'⟩)
    | gi_in)
  have hkr : ∀ k, v.ownBlock = some k → w.heap.size ≤ k ∧ k ≠ Bs := fun k e => ⟨(hr.lt k e).1, fun e' => by have := (hr.lt k e).1; omega⟩
  have hgA : W.grownBy (W.alloc (.cells #[encZ x] 3)) none := World.grownBy_alloc W _ none
  have hb3k : KB w.heap.size Bs W w3 := ((KB.refl _ _ W).alloc hB.size _).grown hg3 (by have := hB.size; simp; omega) hkr
  have hB3 : Below w.heap.size w w3 := hB.trans hb3k.1
  refine ⟨((KeepsOthers.alloc W _).trans (KeepsOthers.of_grownBy hg3 (fun j o hj ho => ?_))).trans (KeepsOthers.setCell _ _ _), hb3k.setCell (p := ⟨w.heap.size, 0, none⟩) (Nat.le_refl _) (by simp; omega) _, ⟨_, heap_setCell_box_a _ hb3, ?_⟩, hB3.setCell (p := ⟨w.heap.size, 0, none⟩) (Nat.le_refl _) _⟩
  ·rcases (hr.alloc (.cells #[encZ x] 3)).2 with ⟨e, _⟩ | ⟨g, cap, cur, e, _, hgb, _⟩
   ·rw [e] at hj; cases hj
   rw [e] at hj
   have : g = j := by simpa [Value.ownBlock] using hj
   subst this
   rw [hgb] at ho
   cases ho
   rfl
  have h5 := hown'.kept (grownBy_setCell0_a w3 w.heap.size (.slice (some ⟨g', 0, none⟩) (pre.length + 1) cap')) (by
     refine ownsRow_ne_a hown' hb3 (fun cur e => by cases e))
  simpa using h5
 case done =>
  rintro D ys W hD rfl ⟨⟨v, hb, hr⟩, hB⟩ hK
  obtain ⟨hbc, hbf⟩ := cell_of_box_a hb
  gi_wp2
  refine ⟨by simp, .inl ⟨_, _, rfl, run_takeDeferred hK, ?_⟩⟩
  have hg5 := grownBy_putObj' W D (.deferred none)
  refine ⟨v, ?_, v, rfl, ?_, hB.trans (belowK_b (w := w) (Nat.le_refl _) W D _ _ (by omega) hK rfl rfl)⟩
  ·simp [results, Tryz.f202, go_sem]
  have h5 := hr.kept hg5 (ownsRow_ne_a hr hK (fun cur e => by cases e))
  rw [gk_length] at h5
  exact h5
 case stop =>
  rintro D c pre W hD hp hf hK
  exact hf.elim
set_option linter.unusedVariables false
open Go.RowKit Go.Shelf Go.Proofs.WWords Go.Proofs.WLast Go.Proofs.WMore PA
set_option linter.unusedVariables false
set_option linter.unusedSimpArgs false
theorem chunks_calls (a0 : ByteArray) (w : World) :
    Calls Tryz.prog 180 #[.string a0] w fun e w' => ∃ g, e = .returned (.func (.func 203) #[] #[.pointer (some ⟨g, 0, none⟩)]) ∧ Boxed w' g 9 (.string a0) ∧ Below w.heap.size w w' := by
 go_enter Tryz.func180, Tryz.ntmps180
 go_wp2
 go_ret
 exact ⟨w.heap.size, rfl, Boxed.new _ _ _, (Below.refl _ w).alloc (Nat.le_refl _) _⟩
theorem slices_Collect_int.calls (a0 : ByteArray) (r : List Int) (g : Nat) (w : World) (hb : Boxed w g 9 (.string a0)) (h : slices_Collect_int.f a0 = some r) :
    Calls Tryz.prog 179 #[.func (.func 203) #[] #[.pointer (some ⟨g, 0, none⟩)]] w fun e w' => ∃ v0_ : Value, e = .returned (v0_) ∧ Kd.R (Kd.int .i64) 3 w' w.heap.size (fun _ => True) v0_ r ∧ Below w.heap.size w w' := by
 unfold slices_Collect_int.f at h
 split at h
 ·rename_i hc
  obtain rfl := Option.some.inj h
  clear h
  go_enter Tryz.func179, Tryz.ntmps179
  go_wp2_with ((with_reducible refine gc_ 202 rfl ?_); refine goesL_ (some 4) rfl rfl Tryz.func202 (by kernel_rfl) rfl #[.slice none 0 0, .func (.func 203) #[] #[.pointer (some ⟨g, 0, none⟩)]] rfl (by (try simp only [List.map_toArray, List.map_cons, List.map_nil]); first | done | rfl) ?_
               refine (callsIn_wide.1 (append_in 3 (by omega) g a0 ((a0.size + 8) / 9) (by omega) (by omega) hc.1 hc.2 w hb)).mono ?_
               rintro e w' ⟨v, rfl, hr, hB⟩; refine ⟨_, rfl, ?_⟩)
  go_ret
  refine ⟨_, rfl, Kd.R_of_own (enc := .int .i64) ?_ (fun _ _ => trivial), hB⟩
  rw [gk_length]
  exact hr
 cases h
end Go.Proofs.YtihbebbabjklkaaGreatDoor
namespace Go.Proofs.YtihbebbabjklkaaGreatDoor.PA
open Go.RowKit Go.Shelf Go.Proofs.WWords Go.Proofs.WLast Go.Proofs.WMore
theorem bIread.calls (k : Nat) (a0 : ByteArray) (r1 : Bool) (r2 : List Int) (w : World) (h : bIread.f k a0 = some (r1, r2)) :
  Calls Tryz.prog 132 #[.string a0] w fun e w' => ∃ X c, e = .returned (.agg #[.bool r1, .slice X r2.length c]) ∧ Kd.C (Kd.int .i64) w' X r2.length r2 ∧ r2.length ≤ c ∧ Below w.heap.size w w' := by
 have hu := Tryz.underlying122
 have HB := Z0.mk (Below.refl w.heap.size w)
 unfold bIread.f at h
 obtain ⟨⟨d, n⟩, A2, h⟩ := bnd h
 dsimp only at h
 obtain ⟨l, A3, h⟩ := bnd h
 obtain ⟨m, A4, h⟩ := bnd h
 cases h
 go_enter Tryz.func132, Tryz.ntmps132
 go_wp2_with (first
  | ((with_reducible refine gd_ 2 rfl ?_); refine bxE 2 #[.bool false, .slice none 0 0] 122 ?_; intro g hg w1 hbox hb; have B := Z0.mk hbox; have G := fE HB hg; replace HB := fB HB hb; clear hb hbox hg)
  | ((with_reducible refine gc_ 178 rfl ?_); refine gL 7 Tryz.func178 (strings_CutPrefix.calls _ _ _ _ _ A2.out) ?_; rintro _ w6 ⟨rfl, hb⟩; refine ⟨_, rfl, ?_⟩; replace B := fk B hb; replace HB := fB HB hb; clear hb)
  | ((with_reducible refine gc_ 180 rfl ?_); refine gL 12 Tryz.func180 (chunks_calls d _) ?_; rintro _ w7 ⟨gq, rfl, hbq, hb⟩; refine ⟨_, rfl, ?_⟩; replace B := fk B hb; replace HB := fB HB hb; have HQ := Z0.mk hbq; clear hb hbq)
  | ((with_reducible refine gc_ 179 rfl ?_); refine gL 13 Tryz.func179 (slices_Collect_int.calls _ _ _ _ HQ.out A3.out) ?_; rintro _ w8 ⟨v, rfl, ho, hb⟩; refine ⟨_, rfl, ?_⟩; replace B := fk B hb; replace HB := fB HB hb; obtain ⟨A8, c8, rfl⟩ := Kd.R_slice ho; replace ho := Z0.mk ho; clear hb)
  | ((with_reducible refine gc_ 144 rfl ?_); refine cX rfl ?_; rintro _ w9 ⟨rfl, HO, hb⟩; refine ⟨_, rfl, ?_⟩; replace B := fk B hb; replace HB := fB HB hb; clear hb; obtain ⟨z0, z1, s0, s1⟩ := b2 B))
 obtain ⟨-, hc, C⟩ := Kd.R_reads' HO.out
 refine bodyPost_ret (results_cell_row rfl _ _ g 122 #[.bool r1, .slice A8 r2.length c8] (0, 0) _ rfl (blk_put (blk_put B.out 0 _ rfl) 1 _ rfl) hu rfl (by kernel_rfl)) rfl ?_
 exact ⟨_, _, rfl, C_set2 C B.out, hc, below_set (below_set HB.out G.out) G.out⟩
end Go.Proofs.YtihbebbabjklkaaGreatDoor.PA
set_option linter.unusedVariables false
namespace Go.Proofs.YtihbebbabjklkaaGreatDoor
open Go.RowKit Go.Shelf Go.Proofs.WWords Go.Proofs.WLast Go.Proofs.WMore PA
set_option linter.unusedVariables false
set_option linter.unusedSimpArgs false
theorem at45_0 (x y : ByteArray) (w : World) : (Instr.index 155 (.agg #[.string x, .string y]) (.int .i64 0)).run Tryz.prog w = .ok (.string x) w := by kernel_rfl
theorem at45_1 (x y : ByteArray) (w : World) : (Instr.index 155 (.agg #[.string x, .string y]) (.int .i64 1)).run Tryz.prog w = .ok (.string y) w := by kernel_rfl
attribute [local go_sem] at45_0 at45_1
end Go.Proofs.YtihbebbabjklkaaGreatDoor
namespace Go.Proofs.YtihbebbabjklkaaGreatDoor.PA
open Go.RowKit Go.Proofs.WWords Go.Proofs.WLast Go.Proofs.WMore
attribute [local go_sem] at45_0 at45_1
instance : Ctr 109 (type_of% @bICheck.calls) := ⟨@bICheck.calls, _, Tryz.func109, by kernel_rfl, rfl⟩
instance : Ctr 132 (type_of% @bIread.calls) := ⟨@bIread.calls, _, Tryz.func132, by kernel_rfl, rfl⟩
theorem bIpair.calls (k : Nat) (a0 : ByteArray) (a1 : ByteArray) (r1 : Bool) (r2 : List Int) (r3 : Bool) (r4 : List Int) (r5 : Int) (w : World) (h : bIpair.f k a0 a1 = some (r1, r2, r3, r4, r5)) :
  Calls Tryz.prog 96 #[.string a0, .string a1] w fun e w' => ∃ X c Y d, e = .returned (.tuple #[.agg #[.bool r1, .slice X r2.length c], .agg #[.bool r3, .slice Y r4.length d], .int .i64 r5]) ∧ Kd.C (Kd.int .i64) w' X r2.length r2 ∧ r2.length ≤ c ∧ Kd.C (Kd.int .i64) w' Y r4.length r4 ∧ r4.length ≤ d ∧ Below w.heap.size w w' := by
 have hu := Tryz.underlying122
 have HB := Z0.mk (Below.refl w.heap.size w)
 unfold bIpair.f at h
 obtain ⟨e0, A0, h⟩ := bnd h
 go_enter Tryz.func96, Tryz.ntmps96
 go_wp2_with (first
  | ((with_reducible refine gd_ 4 rfl ?_); refine bxE 4 #[.bool false, .slice none 0 0] 122 ?_; intro g hg w1 hbox hb; have B0 := Z0.mk hbox; have G0 := fE HB hg; replace HB := fB HB hb; clear hb hbox hg)
  | ((with_reducible refine gd_ 5 rfl ?_); refine bxE 5 #[.bool false, .slice none 0 0] 122 ?_; intro g' hg w2 hbox hb; have B1 := Z0.mk hbox; have G1 := fE HB hg; have NB := fl B0 hg; replace B0 := fk B0 hb; replace HB := fB HB hb; clear hb hbox hg))
 have nb := NB.out
 have nb' := nb.symm
 go_loopw [13] (fun v wr => ∃ j : Nat, j ≤ 2 ∧ v = .int .i64 j ∧ (1 ≤ j → e0 = 0) ∧ (2 ≤ j → r5 = 0 ∧ Z0 (bIread.f k a0 = some (r1, r2)) ∧ Z0 (bIread.f k a1 = some (r3, r4))) ∧ Z0 (wr.heap[g]? = some (.cells #[.bool false, .slice none 0 0] 122)) ∧ Z0 (wr.heap[g']? = some (.cells #[.bool false, .slice none 0 0] 122)) ∧ Z0 (Below w.heap.size w wr))
  (fun i _ => 3 - (Go.RowKit.intOf i).toNat)
 case atStart => exact ⟨0, by omega, rfl, fun h => absurd h (by omega), fun h => absurd h (by omega), B0, B1, HB⟩
 clear B0 B1 HB
 obtain ⟨j, hj, rfl, k1, k2, B0, B1, HB⟩ := hrel
 obtain ⟨z0, z1, s0, s1⟩ := b2 B0
 obtain ⟨z2, z3, s2, s3⟩ := b2 B1
 rcases (show j = 0 ∨ j = 1 ∨ j = 2 by omega) with rfl | rfl | rfl
 · by_cases c : e0 = 0
   · have c1 : (e0 != 0) = false := bne_eq_false_iff_eq.2 c
     go_wp2_with (refine cG rfl ?_; intro w3 hb; replace B0 := fk B0 hb; replace B1 := fk B1 hb; replace HB := fB HB hb; clear hb z0 z1 z2 z3 s0 s1 s2 s3; obtain ⟨z0, z1, s0, s1⟩ := b2 B0; obtain ⟨z2, z3, s2, s3⟩ := b2 B1)
     exact ⟨⟨1, by omega, by simp, fun _ => c, fun h => absurd h (by omega), B0, B1, HB⟩, by simp [Go.RowKit.intOf]⟩
   · have c1 : (e0 != 0) = true := bne_iff_ne.2 c
     rw [if_neg c] at h
     cases h
     go_wp2_with (refine cG rfl ?_; intro w3 hb; replace B0 := fk B0 hb; replace B1 := fk B1 hb; replace HB := fB HB hb; clear hb z0 z1 z2 z3 s0 s1 s2 s3; obtain ⟨z0, z1, s0, s1⟩ := b2 B0; obtain ⟨z2, z3, s2, s3⟩ := b2 B1)
     refine bodyPost_ret (results_list (rs := [.cell 4 122, .cell 5 122, .tmp 6]) rfl (by simp) (.cell g 122 _ (0, 0) _ rfl (put22 nb B0.out B1.out).1 hu rfl (by kernel_rfl) (.cell g' 122 _ (0, 0) _ rfl (put22 nb B0.out B1.out).2 hu rfl (by kernel_rfl) (.tmp .nil)))) rfl ?_
     exact ⟨_, _, _, _, rfl, Kd.C_nil _ _, Nat.le_refl _, Kd.C_nil _ _, Nat.le_refl _, below_set (below_set (below_set (below_set HB.out G0.out) G0.out) G1.out) G1.out⟩
 · rw [if_pos (k1 (by omega))] at h
   obtain ⟨e1, A1, h⟩ := bnd h
   by_cases c : e1 = 0
   · have c1 : (e1 != 0) = false := bne_eq_false_iff_eq.2 c
     rw [if_pos c] at h
     obtain ⟨⟨x1, x2⟩, A2, h⟩ := bnd h
     obtain ⟨⟨x3, x4⟩, A3, h⟩ := bnd h
     cases h
     go_wp2_with (refine cG rfl ?_; intro w3 hb; replace B0 := fk B0 hb; replace B1 := fk B1 hb; replace HB := fB HB hb; clear hb z0 z1 z2 z3 s0 s1 s2 s3; obtain ⟨z0, z1, s0, s1⟩ := b2 B0; obtain ⟨z2, z3, s2, s3⟩ := b2 B1)
     exact ⟨⟨2, by omega, by simp, fun _ => k1 (by omega), fun _ => ⟨trivial, A2, A3⟩, B0, B1, HB⟩, by simp [Go.RowKit.intOf]⟩
   · have c1 : (e1 != 0) = true := bne_iff_ne.2 c
     rw [if_neg c] at h
     cases h
     go_wp2_with (refine cG rfl ?_; intro w3 hb; replace B0 := fk B0 hb; replace B1 := fk B1 hb; replace HB := fB HB hb; clear hb z0 z1 z2 z3 s0 s1 s2 s3; obtain ⟨z0, z1, s0, s1⟩ := b2 B0; obtain ⟨z2, z3, s2, s3⟩ := b2 B1)
     refine bodyPost_ret (results_list (rs := [.cell 4 122, .cell 5 122, .tmp 6]) rfl (by simp) (.cell g 122 _ (0, 0) _ rfl (put22 nb B0.out B1.out).1 hu rfl (by kernel_rfl) (.cell g' 122 _ (0, 0) _ rfl (put22 nb B0.out B1.out).2 hu rfl (by kernel_rfl) (.tmp .nil)))) rfl ?_
     exact ⟨_, _, _, _, rfl, Kd.C_nil _ _, Nat.le_refl _, Kd.C_nil _ _, Nat.le_refl _, below_set (below_set (below_set (below_set HB.out G0.out) G0.out) G1.out) G1.out⟩
 · obtain ⟨rfl, A2, A3⟩ := k2 (by omega)
   go_wp2_with (first
    | ((with_reducible refine gd_ 25 rfl ?_); refine cX rfl ?_; rintro _ w3 ⟨X, c, rfl, C, hc, hb⟩; refine ⟨_, rfl, ?_⟩; replace B0 := fk B0 hb; replace B1 := fk B1 hb; replace HB := fB HB hb; clear hb)
    | ((with_reducible refine gd_ 27 rfl ?_); refine cX rfl ?_; rintro _ w4 ⟨Y, d, rfl, D, hd, hb⟩; refine ⟨_, rfl, ?_⟩; replace C := Kd.C_below C hb; replace B0 := fk B0 hb; replace B1 := fk B1 hb; replace HB := fB HB hb; clear hb z0 z1 z2 z3 s0 s1 s2 s3; obtain ⟨z0, z1, s0, s1⟩ := b2 B0; obtain ⟨z2, z3, s2, s3⟩ := b2 B1))
   refine bodyPost_ret (results_list (rs := [.cell 4 122, .cell 5 122, .tmp 6]) rfl (by simp) (.cell g 122 _ (0, 0) _ rfl (put22 nb B0.out B1.out).1 hu rfl (by kernel_rfl) (.cell g' 122 _ (0, 0) _ rfl (put22 nb B0.out B1.out).2 hu rfl (by kernel_rfl) (.tmp .nil)))) rfl ?_
   exact ⟨_, _, _, _, rfl, C_set4 C nb B0.out B1.out, hc, C_set4 D nb B0.out B1.out, hd, below_set (below_set (below_set (below_set HB.out G0.out) G0.out) G1.out) G1.out⟩
set_option linter.unusedVariables false
set_option linter.unusedSimpArgs false
theorem bIminus.calls (k : Nat) (A0 : Option Addr) (c0 : Nat) (l0 : List Int) (A1 : Option Addr) (c1 : Nat) (l1 : List Int) (r : List Int) (w : World) (hr0 : Kd.C (Kd.int .i64) w A0 l0.length l0) (hc0 : l0.length ≤ c0) (hr1 : Kd.C (Kd.int .i64) w A1 l1.length l1) (hc1 : l1.length ≤ c1) (h : bIminus.f k l0 l1 = some r) :
  Calls Tryz.prog 140 #[.slice A0 l0.length c0, .slice A1 l1.length c1] w fun e w' => ∃ v0_ : Value, e = .returned (v0_) ∧ Kd.R (Kd.int .i64) 3 w' w.heap.size (fun _ => True) v0_ r ∧ Below w.heap.size w w' := by
 have HB := Z0.mk (Below.refl w.heap.size w)
 unfold bIminus.f at h
 obtain ⟨n0, -, h⟩ := gd h
 obtain ⟨n1, -, h⟩ := gd h
 obtain ⟨y, hy, h⟩ := yb h
 have hu := Tryz.underlying35
 replace hr0 := Z0.mk hr0
 replace hr1 := Z0.mk hr1
 have H' := Z0.mk h
 clear h hc0 hc1
 go_enter Tryz.func140, Tryz.ntmps140
 go_wp2_with (refine mkI (l0.length : Int) y rfl n0 n1 hy ?_; intro A c w1 hb HO; replace HO := Z0.mk (Kd.R_lower HO.out (below_size bqs)); replace HB := fB HB hb; clear hb)
 go_loopg [6, 14] k (fun kq v6 v14 w' => ∃ (x5 : List Int) (x6 i : Int), v6 = .int .i64 x6 ∧ v14 = .int .i64 i ∧ Z0 (bIminus.l0 kq l0 l1 x5 x6 (y.length : Int) i = some r) ∧ kq ≤ k ∧ Z0 (Kd.R (Kd.int .i64) 3 w' w.heap.size (fun _ => True) (.slice A y.length c) x5) ∧ Z0 (Below w.heap.size w w'))
 case atStart => exact ⟨y, 0, 0, rfl, rfl, H', Nat.le_refl _, ⟨rq HO⟩, ⟨bqs⟩⟩
 clear H' HO HB hy n0 n1
 obtain ⟨x5, x6, i, rfl, rfl, H, hk, HO, HB⟩ := hrel
 have hl := (Kd.R_reads' HO.out).1
 cases gk with
 | zero => cases H.out
 | succ k1 =>
 replace H := H.out
 unfold bIminus.l0 at H
 simp only [← hl] at H
 clear hl
 rcases jd H with ⟨-, c1, H⟩ | ⟨-, c1, H⟩
 · repeat' (first | ((with_reducible have Z := gd H); obtain ⟨-, _, H⟩ := Z) | ((with_reducible have Z := jd H); rcases Z with ⟨-, _, H⟩ | ⟨-, _, H⟩))
   all_goals (
    obtain ⟨g, rfl, c3, c4, c5, c6⟩ := ownF HO i od od
    (try (have Z := atB HB hr0.out i; obtain ⟨a0, rfl, r1, r2, r3⟩ := Z))
    (try (have Z := atB HB hr1.out i; obtain ⟨a1, rfl, r4, r5, r6⟩ := Z))
    have H' := Z0.mk H
    clear H
    go_wp2_with (refine stI i _ HO HB rfl ?_; intro w2 HO' hg HB')
    go_roundg k1
    case measure => omega
    case rel => exact ⟨_, _, _, rfl, rfl, H', by omega, HO', HB'⟩)
 · obtain ⟨t, A1, H⟩ := bnd H
   cases H
   go_wp2_with (refine cX rfl ?_; rintro _ w2 ⟨rfl, HO', hb⟩; refine ⟨_, rfl, ?_⟩; replace HB := fB HB hb)
   go_ret
   exact ⟨_, rfl, HO'.out, HB.out⟩
end Go.Proofs.YtihbebbabjklkaaGreatDoor.PA
namespace Go.Proofs.YtihbebbabjklkaaGreatDoor
set_option linter.unusedVariables false
open Go.RowKit Go.Shelf Go.Proofs.WWords
attribute [local go_sem] Oper.semAt_some
theorem rd_range {B : Int} (hB : 0 < B) {l : List Int} (h : Sv.Digs B l) (i : Int) : 0 ≤ rd l i ∧ rd l i < B := by
 unfold rd
 rw [List.getD_eq_getElem?_getD]
 cases hx : l[i.toNat]? with
 | none => simp; exact hB
 | some x => exact h x (List.mem_of_getElem? hx)
theorem order_in (F : Fence) (n : Nat) (h1 : F.fn 142) (h2 : F.fn 134) (h3 : F.fn 182) (hro : F.round = none) (hn : 3 ≤ n) (A0 : Option Addr) (c0 : Nat) (l0 : List Int) (A1 : Option Addr) (c1 : Nat) (l1 : List Int) (w : World)
  (hr0 : Kd.C (Kd.int .i64) w A0 l0.length l0) (hr1 : Kd.C (Kd.int .i64) w A1 l1.length l1) (he : l0.length = l1.length)
  (hd : ∀ i : Int, -4611686018427387904 ≤ rd l0 i - rd l1 i ∧ rd l0 i - rd l1 i ≤ 4611686018427387904) :
  CallsIn F n Tryz.prog 142 #[.slice A0 l0.length c0, .slice A1 l1.length c1] w fun e w' => e = .returned (.int .i64 (ordAt l0 l1 l0.length)) ∧ Below w.heap.size w w' := by
 have hm0 := Kd.C_max hr0
 have hm1 := Kd.C_max hr1
 have h1' : 1 ≤ n := by omega
 have hen : ((l0.length : Int) != (l1.length : Int)) = false := by rw [he]; simp
 have hE := Lib.hid he
 clear he
 have HD := Lib.hid hd
 clear hd
 refine callsIn_of_wp_marks Tryz.func142 rfl h1 ?_ hro
 simp only [Tryz.ntmps142, List.size_toArray, List.length_cons, List.length_nil, Nat.reduceAdd, Nat.reduceSub, Array.replicate_succ, Array.replicate_zero, List.push_toArray, List.append_toArray, List.nil_append, List.cons_append]
 gi_wp2_with (gi_at_call 134; refine (back_in F (n - 1) h2 hro _ _ _ _).mono ?_; rintro e w' ⟨rfl, rfl⟩)
 obtain ⟨W0, hW0⟩ : ∃ W0, ((w.alloc (.cells #[.slice A1 l1.length c1] 35)).alloc (.cells #[.int .i64 0] 3)).alloc (.cells #[.slice A0 l0.length c0] 35) = W0 := ⟨_, rfl⟩
 have hB0 : Below w.heap.size w W0 := by rw [← hW0]; exact (((Below.refl _ w).alloc (Nat.le_refl _) _).alloc (by simp) _).alloc (by simp; omega) _
 have hs0 : W0.heap.size = w.heap.size + 3 := by rw [← hW0]; simp
 have hby : Boxed W0 w.heap.size 35 (.slice A1 l1.length c1) := by rw [← hW0]; exact ((Boxed.new _ _ _).alloc _).alloc _
 have hbr : Boxed W0 (w.heap.size + 1) 3 (.int .i64 0) := by
  rw [← hW0]; have := (Boxed.new (w.alloc (.cells #[.slice A1 l1.length c1] 35)) 3 (.int .i64 0)).alloc (.cells #[.slice A0 l0.length c0] 35); rwa [World.size_alloc] at this
 have hbs : Boxed W0 (w.heap.size + 1 + 1) 35 (.slice A0 l0.length c0) := by
  rw [← hW0]; have := Boxed.new ((w.alloc (.cells #[.slice A1 l1.length c1] 35)).alloc (.cells #[.int .i64 0] 3)) 35 (.slice A0 l0.length c0); simpa using this
 rw [hW0]
 refine wpIn_rangeFunc_ownF hro h1' (gf := 182) (lb := #[.pointer (some ⟨w.heap.size + 1 + 1, 0, none⟩)]) rfl h3 (enters_of Tryz.func182 (by kernel_rfl) rfl)
  (back_stops F (n - 1) h3 hro (by omega) (w.heap.size + 1 + 1) w.heap.size A0 c0 l0 hm0 W0 hbs (by omega) (fun W' hb => Kd.C_below hr0 (hB0.trans hb))) kb_t (kb_b (by omega) (by omega)) (Below.refl _ _) (fun _ => rfl)
  (fun pre W => ((∀ p ∈ pre, p.1.2 = rd l1 p.1.1) ∧ Boxed W w.heap.size 35 (.slice A1 l1.length c1) ∧ Boxed W (w.heap.size + 1) 3 (.int .i64 0)) ∧ Below w.heap.size w W)
  (fun c pre W => (c = .ret ∧ ∃ pre' x, pre = pre' ++ [x] ∧ (∀ p ∈ pre', p.1.2 = rd l1 p.1.1) ∧ x.1.2 ≠ rd l1 x.1.1 ∧ W.cell? ⟨w.heap.size + 1, 0, none⟩ = some (.int .i64 (x.1.2 - rd l1 x.1.1))) ∧ Below w.heap.size w W)
  (OwnFrom.and (Own.from (fun s A B row hs hg hr => ⟨hs.1, boxed_own _ _ (fun _ => _) s A B row hs.2.1 hg hr, boxed_own _ _ (fun _ => _) s A B row hs.2.2 hg hr⟩) _) (ownFrom_below (Nat.le_refl _) (by omega)))
  (fun c => OwnFrom.and (Own.from (fun s A B row hs hg hr => by obtain ⟨h, p, x, e1, e2, e3, e4⟩ := hs; exact ⟨h, p, x, e1, e2, e3, cell_kept e4 hg hr⟩) _) (ownFrom_below (Nat.le_refl _) (by omega)))
  ⟨⟨by simp, hby, hbr⟩, hB0⟩
  ?act1 ?assign ?body ?done ?stop
 case assign =>
  intro l x W K hK
  simp only [enc2]
  gi_wp2
  exact hK
 case body =>
  rintro l pre x W ⟨⟨hp, hy, hr⟩, hB⟩ _
  have hl1 := hE.out
  have hx0 := x.2.1
  have hx1 := x.2.2.1
  have hxd := HD.out x.1.1
  rw [← x.2.2.2] at hxd
  obtain ⟨⟨i, v⟩, hx⟩ := x
  simp only at hx0 hx1 hxd
  obtain ⟨ad, rfl, hcx⟩ := Kd.at_int (Kd.C_below hr1 hB) i hx0 (by omega)
  have hyc := hy.cell
  have hrc := hr.cell
  have hrf := hr.frozen
  have hi1 : i < (l1.length : Int) := by omega
  clear hl1
  obtain ⟨q, hq⟩ : ∃ q, rd l1 i = q := ⟨_, rfl⟩
  rw [hq] at hcx hxd
  have HQ := Lib.hid hq
  clear hq
  have hxd1 := hxd.1
  have hxd2 := hxd.2
  gi_wp2
  ·rename_i hne
   have hne' : v ≠ q := by simpa using hne
   refine ⟨KeepsOthers.setCell _ _ _, ⟨rfl, pre, _, rfl, hp, by rw [HQ.out]; exact hne', ?_⟩, hB.setCell (p := ⟨w.heap.size + 1, 0, none⟩) (by simp) _⟩
   rw [HQ.out]
   exact World.cell?_setCell_same' _ _ _ (by rw [hrc]; rfl)
  rename_i hne
  have hne' : v = q := by simpa using hne
  refine ⟨KeepsOthers.refl _, KB.refl _ _ _, ⟨fun p hm => ?_, hy, hr⟩, hB⟩
  rcases List.mem_append.1 hm with hm | hm
  ·exact hp p hm
  rw [List.mem_singleton] at hm
  rw [hm, HQ.out]
  exact hne'
 case done =>
  rintro D ys W hD rfl ⟨⟨hp, hy, hr⟩, hB⟩ hK
  have hrc := hr.cell
  have hrf := hr.frozen
  have hfin : ordAt l0 l1 l0.length = 0 := by
   have key : ∀ k : Nat, k ≤ l0.length → ordAt l0 l1 k = 0 := by
    intro k
    induction k with
    | zero => intro _; rfl
    | succ k ih =>
     intro hk
     have := hp (⟨((k : Int), rd l0 k), by simp only; omega, by simp only; omega, rfl⟩) ((bk_mem (Nat.le_refl _) _).2 (by simp only; omega))
     simp only at this
     rw [ordAt, if_pos this, ih (by omega)]
   exact key _ (Nat.le_refl _)
  have HF := Lib.hid hfin
  clear hfin
  gi_wp2
  have hK' := (KeepsOthers.setCell W ⟨w.heap.size + 1, 0, none⟩ (.int .i64 0)).same D _ hK rfl
  refine ⟨by simp, .inl ⟨_, _, rfl, run_takeDeferred hK', ?_⟩⟩
  have hc5 := cell_kept (World.cell?_setCell_same' W ⟨w.heap.size + 1, 0, none⟩ (.int .i64 0) (by rw [hrc]; rfl)) (grownBy_putObj' _ D (.deferred none)) (fun r e => by cases e; exact ⟨_, hK', rfl⟩)
  refine ⟨.int .i64 0, ?_, by rw [HF.out], (hB.setCell (p := ⟨w.heap.size + 1, 0, none⟩) (by simp) _).trans (belowK_b (w := w) (Nat.le_refl _) _ D _ _ (by omega) hK' rfl rfl)⟩
  simp [results, Tryz.f142, go_sem, hc5]
 case stop =>
  rintro D c pre W hD ⟨k, hk, rfl⟩ ⟨⟨rfl, pre', x, hpre, hp, hne, hrc⟩, hB⟩ hK
  rw [bk_succ _ _ hk] at hpre
  obtain ⟨rfl, rfl⟩ : bk l0 k = pre' ∧ bkx l0 k hk = x := by
   have h2 := List.append_inj' hpre rfl
   exact ⟨h2.1, by simpa using h2.2⟩
  have hfin : ordAt l0 l1 l0.length = (bkx l0 k hk).1.2 - rd l1 (bkx l0 k hk).1.1 := by
   have key : ∀ j : Nat, j ≤ k → ordAt l0 l1 l0.length = ordAt l0 l1 (l0.length - j) := by
    intro j
    induction j with
    | zero => intro _; rfl
    | succ j ih =>
     intro hj
     rw [ih (by omega)]
     have e : l0.length - j = (l0.length - (j + 1)) + 1 := by omega
     have := hp (⟨(((l0.length - (j + 1) : Nat) : Int), rd l0 ((l0.length - (j + 1) : Nat) : Int)), by simp only; omega, by simp only; omega, rfl⟩) ((bk_mem (by omega) _).2 (by simp only; omega))
     simp only at this
     rw [e, ordAt, if_pos this]
   have e : l0.length - k = (l0.length - (k + 1)) + 1 := by omega
   have e2 : (l0.length : Int) - 1 - k = ((l0.length - (k + 1) : Nat) : Int) := by omega
   simp only [bkx, e2] at hne ⊢
   rw [key k (Nat.le_refl _), e, ordAt, if_neg hne]
  rw [← hfin] at hrc
  clear hfin hne hp
  gi_wp2
  refine ⟨by simp, .inl ⟨_, _, rfl, run_takeDeferred hK, ?_⟩⟩
  have hc5 := cell_kept hrc (grownBy_putObj' _ D (.deferred none)) (fun r e => by cases e; exact ⟨_, hK, rfl⟩)
  refine ⟨.int .i64 (ordAt l0 l1 l0.length), ?_, rfl, hB.trans (belowK_b (w := w) (Nat.le_refl _) W D _ _ (by omega) hK rfl rfl)⟩
  simp [results, Tryz.f142, go_sem, hc5]
theorem digs_sub {x y : List Int} (hx : Sv.Digs Sv.LB x) (hy : Sv.Digs Sv.LB y) (i : Int) : -4611686018427387904 ≤ rd x i - rd y i ∧ rd x i - rd y i ≤ 4611686018427387904 := by
 have h1 := rd_range (by decide) hx i
 have h2 := rd_range (by decide) hy i
 have : Sv.LB = 1000000000 := rfl
 omega
theorem bIorder.calls (A0 : Option Addr) (c0 : Nat) (l0 : List Int) (A1 : Option Addr) (c1 : Nat) (l1 : List Int) (r : Int) (w : World) (hr0 : Kd.C (Kd.int .i64) w A0 l0.length l0) (hc0 : l0.length ≤ c0) (hr1 : Kd.C (Kd.int .i64) w A1 l1.length l1) (hc1 : l1.length ≤ c1) (h : bIorder.f l0 l1 = some r) :
  Calls Tryz.prog 142 #[.slice A0 l0.length c0, .slice A1 l1.length c1] w fun e w' => e = .returned (.int .i64 r) ∧ Below w.heap.size w w' := by
 unfold bIorder.f at h
 by_cases hd : Sv.Digs Sv.LB l0 ∧ Sv.Digs Sv.LB l1 ∧ l0.length ≤ 4611686018427387904 ∧ l1.length ≤ 4611686018427387904
 ·rw [if_pos hd] at h
  obtain rfl := Option.some.inj h
  by_cases he : l0.length = l1.length
  ·rw [if_pos he]
   exact (callsIn_wide (n := 3)).1 (order_in Fence.wide 3 trivial trivial trivial rfl (by omega) A0 c0 l0 A1 c1 l1 w hr0 hr1 he (digs_sub hd.1 hd.2.1))
  rw [if_neg he]
  have hen : ((l0.length : Int) != (l1.length : Int)) = true := by rw [bne_iff_ne]; omega
  have h1 := hd.2.2.1
  have h2 := hd.2.2.2
  have hz := run_underlying (P := Tryz.prog) Tryz.underlying3
  clear hd h he
  go_enter Tryz.func142, Tryz.ntmps142
  go_wp2
  refine bodyPost_ret (v := .int .i64 ((l0.length : Int) - l1.length)) ?_ rfl ⟨rfl, ?_⟩
  ·simp [results, Tryz.f142, go_sem]
  exact ((Below.refl _ w).alloc (Nat.le_refl _) _).alloc (by simp) _
 rw [if_neg hd] at h
 cases h
end Go.Proofs.YtihbebbabjklkaaGreatDoor
namespace Go.Proofs.YtihbebbabjklkaaGreatDoor.PA
set_option linter.unusedVariables false
set_option linter.unusedSimpArgs false
open Go.RowKit Go.Proofs.WWords Go.Proofs.WLast Go.Proofs.WMore
theorem bIplus0.calls (k : Nat) (A0 : Option Addr) (c0 : Nat) (l0 : List Int) (A1 : Option Addr) (c1 : Nat) (l1 : List Int) (r : List Int) (w : World) (hr0 : Kd.C (Kd.int .i64) w A0 l0.length l0) (hc0 : l0.length ≤ c0) (hr1 : Kd.C (Kd.int .i64) w A1 l1.length l1) (hc1 : l1.length ≤ c1) (ar : Array Value) (hs : (ar = #[.slice A0 l0.length c0, .slice A1 l1.length c1] ∧ ¬ l0.length < l1.length) ∨ (ar = #[.slice A1 l1.length c1, .slice A0 l0.length c0] ∧ l1.length < l0.length)) (h : bIplus0.f k l0 l1 = some r) :
  Calls Tryz.prog 139 ar w fun e w' => ∃ v0_ : Value, e = .returned (v0_) ∧ Kd.R (Kd.int .i64) 3 w' w.heap.size (fun _ => True) v0_ r ∧ Below w.heap.size w w' := by
 have HB := Z0.mk (Below.refl w.heap.size w)
 unfold bIplus0.f at h
 obtain ⟨n0, -, h⟩ := gd h
 obtain ⟨n1, -, h⟩ := gd h
 obtain ⟨y, hy, h⟩ := yb h
 have hw := i64_w ((l0.length : Int) + 1)
 generalize wrap64 ((l0.length : Int) + 1) = n at n0 n1 hy hw
 have hu := Tryz.underlying35
 replace hr0 := Z0.mk hr0
 replace hr1 := Z0.mk hr1
 have H' := Z0.mk h
 clear h hc0 hc1
 rcases hs with ⟨rfl, hs⟩ | ⟨rfl, hs⟩
 all_goals (
  first
   | (have hz : ¬ l0.length < l1.length := hs; have hsw : decide ((l0.length : Int) < (l1.length : Int)) = false := decide_eq_false (by omega); have hsn : decide (l0.length < l1.length) = false := decide_eq_false hz; have hso : (l0.length < l1.length) = False := eq_false hz)
   | (have hz : l1.length < l0.length := hs; have hsw : decide ((l1.length : Int) < (l0.length : Int)) = true := decide_eq_true (by omega); have hsn : decide (l1.length < l0.length) = true := decide_eq_true hz; have hso : (l1.length < l0.length) = True := eq_true hz)
  clear hs hz
  go_enter Tryz.func139, Tryz.ntmps139
  go_wp2_with (refine mkI n y rfl n0 n1 hy ?_; intro A c w1 hb HO; replace HO := Z0.mk (Kd.R_lower HO.out (below_size bqs)); replace HB := fB HB hb; clear hb)
  go_loopg [6, 21] k (fun kq v6 v21 w' => ∃ (x5 : List Int) (x6 i : Int), v6 = .int .i64 x6 ∧ v21 = .int .i64 i ∧ Z0 (bIplus0.l0 kq l0 l1 x5 x6 (y.length : Int) i = some r) ∧ kq ≤ k ∧ Z0 (Kd.R (Kd.int .i64) 3 w' w.heap.size (fun _ => True) (.slice A y.length c) x5) ∧ Z0 (Below w.heap.size w w'))
  case atStart => exact ⟨y, 0, 0, rfl, rfl, H', Nat.le_refl _, ⟨rq HO⟩, ⟨bqs⟩⟩
  clear H' HO HB hw hsw hsn hso hy n0 n1
  obtain ⟨x5, x6, i, rfl, rfl, H, hk, HO, HB⟩ := hrel
  have hl := (Kd.R_reads' HO.out).1
  cases gk with
  | zero => cases H.out
  | succ k1 =>
  replace H := H.out
  unfold bIplus0.l0 at H
  simp only [← hl] at H
  clear hl
  rcases jd H with ⟨-, c1, H⟩ | ⟨-, c1, H⟩
  · repeat' (first | ((with_reducible have Z := gd H); obtain ⟨-, _, H⟩ := Z) | ((with_reducible have Z := jd H); rcases Z with ⟨-, _, H⟩ | ⟨-, _, H⟩))
    all_goals (
     obtain ⟨g, rfl, c3, c4, c5, c6⟩ := ownF HO i od od
     (try (have Z := atB HB hr0.out i; obtain ⟨a0, rfl, r1, r2, r3⟩ := Z))
     (try (have Z := atB HB hr1.out i; obtain ⟨a1, rfl, r4, r5, r6⟩ := Z))
     have H' := Z0.mk H
     clear H
     go_wp2_with (refine stI i _ HO HB rfl ?_; intro w2 HO' hg HB')
     go_roundg k1
     case measure => omega
     case rel => exact ⟨_, _, _, rfl, rfl, H', by omega, HO', HB'⟩)
  · obtain ⟨t, A1, H⟩ := bnd H
    cases H
    go_wp2_with (refine cX rfl ?_; rintro _ w2 ⟨rfl, HO', hb⟩; refine ⟨_, rfl, ?_⟩; replace HB := fB HB hb)
    go_ret
    exact ⟨_, rfl, HO'.out, HB.out⟩)
theorem bIplus.calls (k : Nat) (A0 : Option Addr) (c0 : Nat) (l0 : List Int) (A1 : Option Addr) (c1 : Nat) (l1 : List Int) (r : List Int) (w : World) (hr0 : Kd.C (Kd.int .i64) w A0 l0.length l0) (hc0 : l0.length ≤ c0) (hr1 : Kd.C (Kd.int .i64) w A1 l1.length l1) (hc1 : l1.length ≤ c1) (h : bIplus.f k l0 l1 = some r) :
  Calls Tryz.prog 139 #[.slice A0 l0.length c0, .slice A1 l1.length c1] w fun e w' => ∃ v0_ : Value, e = .returned (v0_) ∧ Kd.R (Kd.int .i64) 3 w' w.heap.size (fun _ => True) v0_ r ∧ Below w.heap.size w w' := by
 unfold bIplus.f at h
 split at h
 ·rename_i hs
  exact bIplus0.calls k A1 c1 l1 A0 c0 l0 r w hr1 hc1 hr0 hc0 _ (.inr ⟨rfl, hs⟩) h
 rename_i hs
 exact bIplus0.calls k A0 c0 l0 A1 c1 l1 r w hr0 hc0 hr1 hc1 _ (.inl ⟨rfl, hs⟩) h
end Go.Proofs.YtihbebbabjklkaaGreatDoor.PA
namespace Go.Proofs.YtihbebbabjklkaaGreatDoor
set_option linter.unusedVariables false
open Go.RowKit Go.Proofs.WWords Go.Proofs.WLast Go.Proofs.WMore PA
set_option linter.unusedSimpArgs false
theorem run_store_func {P : Program} {w : World} {a : Addr} {m : Mode} (f : Fn) (x y : Array Value) : (store a (.func f x y) m).run P w = stored P w a (.func f x y) m := run_store P w a _ m rfl
attribute [local go_sem] run_store_func
def opsV : Value := .agg #[.func (.func 139) #[] #[], .func (.func 188) #[] #[], .func (.func 189) #[] #[], .func (.func 190) #[] #[]]
theorem ops_calls (w : World) : Calls Tryz.prog 141 #[] w fun e w' => e = .returned opsV ∧ Below w.heap.size w w' := by
 have hu123 := Tryz.underlying175
 have hu122 := Tryz.underlying174
 go_enter Tryz.func141, Tryz.ntmps141
 go_wp2_with ((with_reducible refine gd_ 0 rfl ?_); refine bxE 0 #[.nilFunc, .nilFunc, .nilFunc, .nilFunc] 175 ?_; intro g hg w1 hbox hb
              have c0 := blk_cell hbox 0; have c1 := blk_cell hbox 1; have c2 := blk_cell hbox 2; have c3 := blk_cell hbox 3
              have f0 := blk_frozen hbox 0; have f1 := blk_frozen hbox 1; have f2 := blk_frozen hbox 2; have f3 := blk_frozen hbox 3
              replace c0 := c0.trans (show _ = some Value.nilFunc from rfl); replace c1 := c1.trans (show _ = some Value.nilFunc from rfl); replace c2 := c2.trans (show _ = some Value.nilFunc from rfl); replace c3 := c3.trans (show _ = some Value.nilFunc from rfl)
              have hge : w.heap.size ≤ g := by omega
              clear hg)
 refine bodyPost_ret (results_cell_row rfl _ _ g 175 #[.func (.func 139) #[] #[], .func (.func 188) #[] #[], .func (.func 189) #[] #[], .func (.func 190) #[] #[]] (0, 0) _ rfl ?_ Tryz.underlying175 rfl (by kernel_rfl)) rfl ?_
 ·exact blk_put (cs := #[.func (.func 139) #[] #[], .func (.func 188) #[] #[], .func (.func 189) #[] #[], .nilFunc]) (blk_put (cs := #[.func (.func 139) #[] #[], .func (.func 188) #[] #[], .nilFunc, .nilFunc]) (blk_put (cs := #[.func (.func 139) #[] #[], .nilFunc, .nilFunc, .nilFunc]) (blk_put hbox 0 _ rfl) 1 _ rfl) 2 _ rfl) 3 _ rfl
 exact ⟨rfl, below_set (below_set (below_set (below_set hb hge) hge) hge) hge⟩
theorem op1_calls (a0 a1 : Bool) (v0 v1 : Value) (w : World) : Calls Tryz.prog 188 #[.agg #[.bool a0, v0], .agg #[.bool a1, v1]] w fun e w' => e = .returned (.bool a0) ∧ Below w.heap.size w w' := by
 have hu88 := Tryz.underlying122
 go_enter Tryz.func188, Tryz.ntmps188
 go_wp2
 go_ret
 exact ⟨rfl, ((Below.refl _ w).alloc (Nat.le_refl _) _).alloc (by simp) _⟩
theorem op2_calls (k : Nat) (A0 : Option Addr) (c0 : Nat) (l0 : List Int) (A1 : Option Addr) (c1 : Nat) (l1 : List Int) (t : Int) (r : List Int) (w : World) (hr0 : Kd.C (Kd.int .i64) w A0 l0.length l0) (hc0 : l0.length ≤ c0) (hr1 : Kd.C (Kd.int .i64) w A1 l1.length l1) (hc1 : l1.length ≤ c1)
    (ho : bIorder.f l0 l1 = some t) (h : (if t < 0 then bIminus.f k l1 l0 else bIminus.f k l0 l1) = some r) :
    Calls Tryz.prog 189 #[.slice A0 l0.length c0, .slice A1 l1.length c1] w fun e w' => ∃ v0_ : Value, e = .returned (v0_) ∧ Kd.R (Kd.int .i64) 3 w' w.heap.size (fun _ => True) v0_ r ∧ Below w.heap.size w w' := by
 by_cases c : t < 0
 ·rw [if_pos c] at h
  have c0b : decide (t < 0) = true := decide_eq_true c
  clear c
  go_enter Tryz.func189, Tryz.ntmps189
  go_wp2_with (first
    | ((with_reducible refine gc_ 142 rfl ?_); refine goB (w0 := w) (some 7) Tryz.func142 #[.slice A0 l0.length c0, .slice A1 l1.length c1] (Below.refl _ _) (bIorder.calls _ _ l0 _ _ l1 t _ hr0 hc0 hr1 hc1 ho) ?_; intro w1 HB)
    | ((with_reducible refine gc_ 140 rfl ?_); refine goesL_ (some 13) rfl rfl Tryz.func140 (by kernel_rfl) rfl #[.slice A1 l1.length c1, .slice A0 l0.length c0] rfl (by (try simp only [List.map_toArray, List.map_cons, List.map_nil]); first | done | rfl) ?_
       refine (bIminus.calls k A1 c1 l1 A0 c0 l0 r _ (Kd.C_below hr1 HB.out) hc1 (Kd.C_below hr0 HB.out) hc0 h).mono ?_
       rintro e w2 ⟨v0, rfl, hR, hb⟩; refine ⟨_, rfl, ?_⟩))
  go_ret
  exact ⟨_, rfl, Kd.R_lower hR HB.out.size, below_step HB.out hb⟩
 rw [if_neg c] at h
 have c0b : decide (t < 0) = false := decide_eq_false c
 clear c
 go_enter Tryz.func189, Tryz.ntmps189
 go_wp2_with (first
   | ((with_reducible refine gc_ 142 rfl ?_); refine goB (w0 := w) (some 7) Tryz.func142 #[.slice A0 l0.length c0, .slice A1 l1.length c1] (Below.refl _ _) (bIorder.calls _ _ l0 _ _ l1 t _ hr0 hc0 hr1 hc1 ho) ?_; intro w1 HB)
   | ((with_reducible refine gc_ 140 rfl ?_); refine goesL_ (some 13) rfl rfl Tryz.func140 (by kernel_rfl) rfl #[.slice A0 l0.length c0, .slice A1 l1.length c1] rfl (by (try simp only [List.map_toArray, List.map_cons, List.map_nil]); first | done | rfl) ?_
      refine (bIminus.calls k A0 c0 l0 A1 c1 l1 r _ (Kd.C_below hr0 HB.out) hc0 (Kd.C_below hr1 HB.out) hc1 h).mono ?_
      rintro e w2 ⟨v0, rfl, hR, hb⟩; refine ⟨_, rfl, ?_⟩))
 go_ret
 exact ⟨_, rfl, Kd.R_lower hR HB.out.size, below_step HB.out hb⟩
theorem op3_calls (a0 a1 : Bool) (A0 : Option Addr) (c0 : Nat) (l0 : List Int) (A1 : Option Addr) (c1 : Nat) (l1 : List Int) (t : Int) (w : World) (hr0 : Kd.C (Kd.int .i64) w A0 l0.length l0) (hc0 : l0.length ≤ c0) (hr1 : Kd.C (Kd.int .i64) w A1 l1.length l1) (hc1 : l1.length ≤ c1)
    (ho : bIorder.f l0 l1 = some t) :
    Calls Tryz.prog 190 #[.agg #[.bool a0, .slice A0 l0.length c0], .agg #[.bool a1, .slice A1 l1.length c1]] w fun e w' => e = .returned (.bool (decide (t < 0) != a0)) ∧ Below w.heap.size w w' := by
 have hu88 := Tryz.underlying122
 go_enter Tryz.func190, Tryz.ntmps190
 go_wp2
 obtain ⟨s, hs⟩ : ∃ s, w.heap.size = s := ⟨_, rfl⟩
 simp only [hs]
 obtain ⟨W, hW⟩ : ∃ W, (w.alloc (.cells #[.bool a0, .slice A0 l0.length c0] 122)).alloc (.cells #[.bool a1, .slice A1 l1.length c1] 122) = W := ⟨_, rfl⟩
 rw [hW]
 have hB : Below s w W := by rw [← hW]; exact ((Below.refl _ w).alloc (by omega) _).alloc (by simp; omega) _
 have h0 : W.heap[s]? = some (.cells #[.bool a0, .slice A0 l0.length c0] 122 (0, 0)) := by rw [← hW, ← hs]; exact (Below.heap_alloc _ _ _ (by simp)).trans (World.alloc_heap_new w _)
 have h1 : W.heap[s + 1]? = some (.cells #[.bool a1, .slice A1 l1.length c1] 122 (0, 0)) := by
  rw [← hW, ← hs]; have := World.alloc_heap_new (w.alloc (.cells #[.bool a0, .slice A0 l0.length c0] 122)) (.cells #[.bool a1, .slice A1 l1.length c1] 122); simpa using this
 have hlt : s + 1 < W.heap.size := (Array.getElem?_eq_some_iff.1 h1).1
 clear hW
 have k0 : Kd.C (Kd.int .i64) W.drew A0 l0.length l0 := Kd.C_below hr0 (by rw [hs]; exact hB.drew)
 have k1 : Kd.C (Kd.int .i64) W.drew A1 l1.length l1 := Kd.C_below hr1 (by rw [hs]; exact hB.drew)
 have f00 := blk_cell h0 0
 have f01 := blk_cell h0 1
 have f11 := blk_cell h1 1
 go_region_held3 (fun w' => w'.cell? ⟨s, 0, none⟩ = some (.bool a0) ∧ w'.cell? ⟨s, 1, none⟩ = some (.slice A0 l0.length c0) ∧ w'.cell? ⟨s + 1, 1, none⟩ = some (.slice A1 l1.length c1)) (first | exact ⟨f00, f01, f11⟩ | exact ⟨(blk_cell g0 0), (blk_cell g0 1), (blk_cell g1 1)⟩) (first | (go_at_call 142; refine (bIorder.calls _ _ l0 _ _ l1 t _ k0 hc0 k1 hc1 ho).mono ?_; rintro e w' ⟨rfl, hb⟩; have g0 : w'.heap[s]? = some (.cells #[.bool a0, .slice A0 l0.length c0] 122 (0, 0)) := (hb.block s (show s < W.heap.size by omega)).trans h0; have g1 : w'.heap[s + 1]? = some (.cells #[.bool a1, .slice A1 l1.length c1] 122 (0, 0)) := (hb.block (s + 1) hlt).trans h1))
 all_goals go_wp2
 all_goals go_ret
 refine ⟨by simp [bne], by rw [hs]; exact (hB.drew).trans (hb.mono (by have := hB.size; rw [hs] at this; exact this))⟩
set_option linter.unusedVariables false
set_option linter.unusedSimpArgs false
attribute [local go_sem] run_store_func
theorem at123_0 (w : World) : (Instr.index 175 opsV (.int .i64 0)).run Tryz.prog w = .ok (.agg #[.func (.func 139) #[] #[], .func (.func 188) #[] #[]]) w := by kernel_rfl
theorem at123_1 (w : World) : (Instr.index 175 opsV (.int .i64 1)).run Tryz.prog w = .ok (.agg #[.func (.func 189) #[] #[], .func (.func 190) #[] #[]]) w := by kernel_rfl
attribute [local go_sem] at123_0 at123_1
structure SumI (s : Nat) (a0 : Bool) (A0 : Option Addr) (c0 : Nat) (l0 : List Int) (a1 : Bool) (A1 : Option Addr) (c1 : Nat) (l1 : List Int) (f g : Nat) (gf : Nat) (w W : World) : Prop where
 x : W.heap[s]? = some (.cells #[.bool a0, .slice A0 l0.length c0] 122 (0, 0))
 y : W.heap[s + 1]? = some (.cells #[.bool a1, .slice A1 l1.length c1] 122 (0, 0))
 r : W.heap[s + 2]? = some (.cells #[.bool false, .slice none 0 0] 122 (0, 0))
 o : W.heap[gf]? = some (.cells #[.func (.func f) #[] #[], .func (.func g) #[] #[]] 174 (0, 0))
 b : Below w.heap.size w W
 kx : Kd.C (Kd.int .i64) W A0 l0.length l0
 ky : Kd.C (Kd.int .i64) W A1 l1.length l1
 ne : s + 3 ≤ gf
theorem SumI.on {s : Nat} {a0 : Bool} {A0 : Option Addr} {c0 : Nat} {l0 : List Int} {a1 : Bool} {A1 : Option Addr} {c1 : Nat} {l1 : List Int} {f g gf : Nat} {w W W' : World} (h : SumI s a0 A0 c0 l0 a1 A1 c1 l1 f g gf w W) (hb : Below W.heap.size W W') : SumI s a0 A0 c0 l0 a1 A1 c1 l1 f g gf w W' :=
 have k : ∀ {j : Nat} {o : Obj}, W.heap[j]? = some o → W'.heap[j]? = some o := fun hj => (hb.block _ (Array.getElem?_eq_some_iff.1 hj).1).trans hj
 ⟨k h.x, k h.y, k h.r, k h.o, h.b.trans (hb.mono h.b.size), Kd.C_below h.kx hb, Kd.C_below h.ky hb, h.ne⟩
def SumS (s : Nat) (a0 : Bool) (A0 : Option Addr) (c0 : Nat) (l0 : List Int) (a1 : Bool) (A1 : Option Addr) (c1 : Nat) (l1 : List Int) (f g : Nat) (gf : Nat) (w' : World) : Prop :=
 w'.cell? ⟨s, 0, none⟩ = some (.bool a0) ∧ w'.cell? ⟨s, 1, none⟩ = some (.slice A0 l0.length c0) ∧ w'.cell? ⟨s + 1, 0, none⟩ = some (.bool a1) ∧ w'.cell? ⟨s + 1, 1, none⟩ = some (.slice A1 l1.length c1) ∧ w'.cell? ⟨gf, 0, none⟩ = some (.func (.func f) #[] #[]) ∧ w'.cell? ⟨gf, 1, none⟩ = some (.func (.func g) #[] #[])
theorem SumI.cells {s : Nat} {a0 : Bool} {A0 : Option Addr} {c0 : Nat} {l0 : List Int} {a1 : Bool} {A1 : Option Addr} {c1 : Nat} {l1 : List Int} {f g gf : Nat} {w W : World} (h : SumI s a0 A0 c0 l0 a1 A1 c1 l1 f g gf w W) : SumS s a0 A0 c0 l0 a1 A1 c1 l1 f g gf W :=
 ⟨blk_cell h.x 0, blk_cell h.x 1, blk_cell h.y 0, blk_cell h.y 1, blk_cell h.o 0, blk_cell h.o 1⟩
theorem SumI.put {s : Nat} {a0 : Bool} {A0 : Option Addr} {c0 : Nat} {l0 : List Int} {a1 : Bool} {A1 : Option Addr} {c1 : Nat} {l1 : List Int} {f g gf : Nat} {w W : World} (h : SumI s a0 A0 c0 l0 a1 A1 c1 l1 f g gf w W) (u v : Value) : SumS s a0 A0 c0 l0 a1 A1 c1 l1 f g gf ((W.setCell ⟨s + 1 + 1, 0, none⟩ u).setCell ⟨s + 1 + 1, 1, none⟩ v) := by
 have k : ∀ {j : Nat} {o : Obj}, j ≠ s + 1 + 1 → W.heap[j]? = some o → ((W.setCell ⟨s + 1 + 1, 0, none⟩ u).setCell ⟨s + 1 + 1, 1, none⟩ v).heap[j]? = some o := fun hn hj => (Below.heap_setCell _ _ _ _ hn).trans ((Below.heap_setCell _ _ _ _ hn).trans hj)
 have hne := h.ne
 have hx := k (by omega) h.x
 have hy := k (by omega) h.y
 have ho := k (by omega) h.o
 exact ⟨blk_cell hx 0, blk_cell hx 1, blk_cell hy 0, blk_cell hy 1, blk_cell ho 0, blk_cell ho 1⟩
theorem SumI.end_ {s : Nat} {a0 : Bool} {A0 : Option Addr} {c0 : Nat} {l0 : List Int} {a1 : Bool} {A1 : Option Addr} {c1 : Nat} {l1 : List Int} {f g gf : Nat} {w W : World} (h : SumI s a0 A0 c0 l0 a1 A1 c1 l1 f g gf w W) (u v : Value) : ((W.setCell ⟨s + 1 + 1, 0, none⟩ u).setCell ⟨s + 1 + 1, 1, none⟩ v).heap[s + 1 + 1]? = some (.cells #[u, v] 122 (0, 0)) :=
 blk_put (cs := #[u, .slice none 0 0]) (blk_put (cs := #[.bool false, .slice none 0 0]) h.r 0 _ rfl) 1 _ rfl
theorem SumI.new (w w1 : World) (a0 : Bool) (A0 : Option Addr) (c0 : Nat) (l0 : List Int) (a1 : Bool) (A1 : Option Addr) (c1 : Nat) (l1 : List Int) (f g : Nat) (hr0 : Kd.C (Kd.int .i64) w A0 l0.length l0) (hr1 : Kd.C (Kd.int .i64) w A1 l1.length l1)
  (hb : Below (((w.alloc (.cells #[.bool a0, .slice A0 l0.length c0] 122)).alloc (.cells #[.bool a1, .slice A1 l1.length c1] 122)).alloc (.cells #[.bool false, .slice none 0 0] 122)).heap.size (((w.alloc (.cells #[.bool a0, .slice A0 l0.length c0] 122)).alloc (.cells #[.bool a1, .slice A1 l1.length c1] 122)).alloc (.cells #[.bool false, .slice none 0 0] 122)) w1) :
  SumI w.heap.size a0 A0 c0 l0 a1 A1 c1 l1 f g w1.heap.size w (w1.alloc (.cells #[.func (.func f) #[] #[], .func (.func g) #[] #[]] 174)) := by
 obtain ⟨W0, hW0⟩ : ∃ W0, ((w.alloc (.cells #[.bool a0, .slice A0 l0.length c0] 122)).alloc (.cells #[.bool a1, .slice A1 l1.length c1] 122)).alloc (.cells #[.bool false, .slice none 0 0] 122) = W0 := ⟨_, rfl⟩
 rw [hW0] at hb
 have hB0 : Below w.heap.size w W0 := by rw [← hW0]; exact (((Below.refl _ w).alloc (Nat.le_refl _) _).alloc (by simp) _).alloc (by simp; omega) _
 have hs0 : W0.heap.size = w.heap.size + 3 := by rw [← hW0]; simp
 have h0 : W0.heap[w.heap.size]? = some (.cells #[.bool a0, .slice A0 l0.length c0] 122 (0, 0)) := by
  rw [← hW0]; exact (Below.heap_alloc _ _ _ (by simp; omega)).trans ((Below.heap_alloc _ _ _ (by simp)).trans (World.alloc_heap_new w _))
 have h1 : W0.heap[w.heap.size + 1]? = some (.cells #[.bool a1, .slice A1 l1.length c1] 122 (0, 0)) := by
  rw [← hW0]; refine (Below.heap_alloc _ _ _ (by simp)).trans ?_
  have := World.alloc_heap_new (w.alloc (.cells #[.bool a0, .slice A0 l0.length c0] 122)) (.cells #[.bool a1, .slice A1 l1.length c1] 122); simpa using this
 have h2 : W0.heap[w.heap.size + 2]? = some (.cells #[.bool false, .slice none 0 0] 122 (0, 0)) := by
  rw [← hW0]
  have := World.alloc_heap_new ((w.alloc (.cells #[.bool a0, .slice A0 l0.length c0] 122)).alloc (.cells #[.bool a1, .slice A1 l1.length c1] 122)) (.cells #[.bool false, .slice none 0 0] 122); simpa using this
 have hB1 : Below w.heap.size w w1 := hB0.trans (hb.mono hB0.size)
 have k : ∀ {j : Nat} {o : Obj}, W0.heap[j]? = some o → (w1.alloc (.cells #[.func (.func f) #[] #[], .func (.func g) #[] #[]] 174)).heap[j]? = some o := fun {j o} hj =>
  (Below.heap_alloc _ _ _ (Nat.lt_of_lt_of_le (Array.getElem?_eq_some_iff.1 hj).1 hb.size)).trans ((hb.block _ (Array.getElem?_eq_some_iff.1 hj).1).trans hj)
 have hB2 := hB1.alloc (Nat.le_trans hB0.size hb.size) (.cells #[.func (.func f) #[] #[], .func (.func g) #[] #[]] 174)
 exact ⟨k h0, k h1, k h2, World.alloc_heap_new w1 _, hB2, Kd.C_below hr0 hB2, Kd.C_below hr1 hB2, by have := hb.size; omega⟩
theorem sum_eq (k : Nat) (a0 : Bool) (A0 : Option Addr) (c0 : Nat) (l0 : List Int) (A1 : Option Addr) (c1 : Nat) (l1 : List Int) (r : List Int) (w : World) (hr0 : Kd.C (Kd.int .i64) w A0 l0.length l0) (hc0 : l0.length ≤ c0) (hr1 : Kd.C (Kd.int .i64) w A1 l1.length l1) (hc1 : l1.length ≤ c1)
  (h : bIplus.f k l0 l1 = some r) :
  Calls Tryz.prog 101 #[.agg #[.bool a0, .slice A0 l0.length c0], .agg #[.bool a0, .slice A1 l1.length c1]] w fun e w' => ∃ v1_ : Value, e = .returned (.agg #[.bool a0, v1_]) ∧ Kd.R (Kd.int .i64) 3 w' w.heap.size (fun _ => True) v1_ r ∧ Below w.heap.size w w' := by
 have hu88 := Tryz.underlying122
 have hu122 := Tryz.underlying174
 go_enter Tryz.func101, Tryz.ntmps101
 go_wp2_with ((with_reducible refine gc_ 141 rfl ?_); refine goesL_ (some 12) rfl rfl Tryz.func141 (by kernel_rfl) rfl #[] rfl (by (try simp only [List.map_toArray, List.map_cons, List.map_nil]); first | done | rfl) ?_; refine (ops_calls _).mono ?_; rintro e w1 ⟨rfl, hb1⟩; refine ⟨_, rfl, ?_⟩)
 have hI := SumI.new w w1 a0 A0 c0 l0 a0 A1 c1 l1 139 188 hr0 hr1 hb1
 obtain ⟨W, hW⟩ : ∃ W, w1.alloc (.cells #[.func (.func 139) #[] #[], .func (.func 188) #[] #[]] 174) = W := ⟨_, rfl⟩
 rw [hW] at hI
 rw [hW]
 obtain ⟨gf, hgf⟩ : ∃ gf, w1.heap.size = gf := ⟨_, rfl⟩
 rw [hgf] at hI
 simp only [hgf]
 obtain ⟨s, hs⟩ : ∃ s, w.heap.size = s := ⟨_, rfl⟩
 rw [hs] at hI
 simp only [hs]
 clear hW hgf hb1
 have hId : SumI s a0 A0 c0 l0 a0 A1 c1 l1 139 188 gf w W.drew := hI.on ((Below.refl _ W).drew)
 go_region_held3 (fun w' => w'.cell? ⟨s, 0, none⟩ = some (.bool a0) ∧ w'.cell? ⟨s, 1, none⟩ = some (.slice A0 l0.length c0) ∧ w'.cell? ⟨s + 1, 0, none⟩ = some (.bool a0) ∧ w'.cell? ⟨s + 1, 1, none⟩ = some (.slice A1 l1.length c1) ∧ w'.cell? ⟨gf, 0, none⟩ = some (.func (.func 139) #[] #[]) ∧ w'.cell? ⟨gf, 1, none⟩ = some (.func (.func 188) #[] #[]))
  (first | exact hId.cells | exact hI2.cells | exact hI3.cells | exact hI3.put _ _)
  (first
   | (go_at_call 188; refine (op1_calls a0 a0 _ _ _).mono ?_; rintro e w2 ⟨rfl, hb⟩; have hI2 := hId.on hb)
   | (go_at_call 139; refine (bIplus.calls k A0 c0 l0 A1 c1 l1 r w2 hI2.kx hc0 hI2.ky hc1 h).mono ?_; rintro e w3 ⟨v0, rfl, hR, hb3⟩; have hI3 := hI2.on hb3; obtain ⟨Ar, cr, er⟩ := Kd.R_slice hR; subst er; have r0 := blk_cell hI3.r 0; have r1 := blk_cell hI3.r 1; have rf0 := blk_frozen hI3.r 0; have rf1 := blk_frozen hI3.r 1))
 all_goals go_wp2
 refine bodyPost_ret (results_cell_row rfl _ _ (s + 1 + 1) 122 #[.bool a0, .slice Ar r.length cr] (0, 0) _ rfl (hI3.end_ _ _) Tryz.underlying122 rfl (by kernel_rfl)) rfl ⟨_, rfl, ?_, ?_⟩
 ·refine Kd.R_mono (Kd.R_far (p := ⟨s + 1 + 1, 1, none⟩) (Kd.R_far (p := ⟨s + 1 + 1, 0, none⟩) (Kd.R_types (Kd.R_lower hR hI2.b.size) hI3.r (by decide)) (fun _ hk => hk.2) _) (fun _ hk => hk.2) _) (fun _ _ => trivial)
 exact below_set (below_set hI3.b (by omega)) (by omega)
theorem sum_ne (k : Nat) (a0 a1 : Bool) (t : Int) (A0 : Option Addr) (c0 : Nat) (l0 : List Int) (A1 : Option Addr) (c1 : Nat) (l1 : List Int) (r : List Int) (w : World) (hr0 : Kd.C (Kd.int .i64) w A0 l0.length l0) (hc0 : l0.length ≤ c0) (hr1 : Kd.C (Kd.int .i64) w A1 l1.length l1) (hc1 : l1.length ≤ c1)
  (hne : (a0 != a1) = true) (ho : bIorder.f l0 l1 = some t) (h : (if t < 0 then bIminus.f k l1 l0 else bIminus.f k l0 l1) = some r) :
  Calls Tryz.prog 101 #[.agg #[.bool a0, .slice A0 l0.length c0], .agg #[.bool a1, .slice A1 l1.length c1]] w fun e w' => ∃ v1_ : Value, e = .returned (.agg #[.bool (decide (t < 0) != a0), v1_]) ∧ Kd.R (Kd.int .i64) 3 w' w.heap.size (fun _ => True) v1_ r ∧ Below w.heap.size w w' := by
 have hne1 : (a0 == a1) = false := by simpa [bne] using hne
 have hne2 : ¬ a0 = a1 := by simpa using hne1
 have hu88 := Tryz.underlying122
 have hu122 := Tryz.underlying174
 go_enter Tryz.func101, Tryz.ntmps101
 go_wp2_with ((with_reducible refine gc_ 141 rfl ?_); refine goesL_ (some 12) rfl rfl Tryz.func141 (by kernel_rfl) rfl #[] rfl (by (try simp only [List.map_toArray, List.map_cons, List.map_nil]); first | done | rfl) ?_; refine (ops_calls _).mono ?_; rintro e w1 ⟨rfl, hb1⟩; refine ⟨_, rfl, ?_⟩)
 have hI := SumI.new w w1 a0 A0 c0 l0 a1 A1 c1 l1 189 190 hr0 hr1 hb1
 obtain ⟨W, hW⟩ : ∃ W, w1.alloc (.cells #[.func (.func 189) #[] #[], .func (.func 190) #[] #[]] 174) = W := ⟨_, rfl⟩
 rw [hW] at hI
 rw [hW]
 obtain ⟨gf, hgf⟩ : ∃ gf, w1.heap.size = gf := ⟨_, rfl⟩
 rw [hgf] at hI
 simp only [hgf]
 obtain ⟨s, hs⟩ : ∃ s, w.heap.size = s := ⟨_, rfl⟩
 rw [hs] at hI
 simp only [hs]
 clear hW hgf hb1
 have hId : SumI s a0 A0 c0 l0 a1 A1 c1 l1 189 190 gf w W.drew := hI.on ((Below.refl _ W).drew)
 go_region_held3 (fun w' => w'.cell? ⟨s, 0, none⟩ = some (.bool a0) ∧ w'.cell? ⟨s, 1, none⟩ = some (.slice A0 l0.length c0) ∧ w'.cell? ⟨s + 1, 0, none⟩ = some (.bool a1) ∧ w'.cell? ⟨s + 1, 1, none⟩ = some (.slice A1 l1.length c1) ∧ w'.cell? ⟨gf, 0, none⟩ = some (.func (.func 189) #[] #[]) ∧ w'.cell? ⟨gf, 1, none⟩ = some (.func (.func 190) #[] #[]))
  (first | exact hId.cells | exact hI2.cells | exact hI3.cells | exact hI3.put _ _)
  (first
   | (go_at_call 190; refine (op3_calls a0 a1 A0 c0 l0 A1 c1 l1 t _ hId.kx hc0 hId.ky hc1 ho).mono ?_; rintro e w2 ⟨rfl, hb⟩; have hI2 := hId.on hb)
   | (go_at_call 189; refine (op2_calls k A0 c0 l0 A1 c1 l1 t r w2 hI2.kx hc0 hI2.ky hc1 ho h).mono ?_; rintro e w3 ⟨v0, rfl, hR, hb3⟩; have hI3 := hI2.on hb3; obtain ⟨Ar, cr, er⟩ := Kd.R_slice hR; subst er; have r0 := blk_cell hI3.r 0; have r1 := blk_cell hI3.r 1; have rf0 := blk_frozen hI3.r 0; have rf1 := blk_frozen hI3.r 1))
 all_goals go_wp2
 refine bodyPost_ret (results_cell_row rfl _ _ (s + 1 + 1) 122 #[.bool (decide (t < 0) != a0), .slice Ar r.length cr] (0, 0) _ rfl (by first | exact hI3.end_ _ _ | (have := hI3.end_ (.bool (decide (t < 0) != a0)) (.slice Ar r.length cr); simpa [bne] using this)) Tryz.underlying122 rfl (by kernel_rfl)) rfl ⟨_, rfl, ?_, ?_⟩
 ·refine Kd.R_mono (Kd.R_far (p := ⟨s + 1 + 1, 1, none⟩) (Kd.R_far (p := ⟨s + 1 + 1, 0, none⟩) (Kd.R_types (Kd.R_lower hR hI2.b.size) hI3.r (by decide)) (fun _ hk => hk.2) _) (fun _ hk => hk.2) _) (fun _ _ => trivial)
 exact below_set (below_set hI3.b (by omega)) (by omega)
theorem bIsum.calls (k : Nat) (a0_0 : Bool) (A0_1 : Option Addr) (c0_1 : Nat) (l0_1 : List Int) (a1_0 : Bool) (A1_1 : Option Addr) (c1_1 : Nat) (l1_1 : List Int) (r1 : Bool) (r2 : List Int) (w : World) (hr0_1 : Kd.C (Kd.int .i64) w A0_1 l0_1.length l0_1) (hc0_1 : l0_1.length ≤ c0_1) (hr1_1 : Kd.C (Kd.int .i64) w A1_1 l1_1.length l1_1) (hc1_1 : l1_1.length ≤ c1_1) (h : bIsum.f k a0_0 l0_1 a1_0 l1_1 = some (r1, r2)) :
  Calls Tryz.prog 101 #[.agg #[.bool a0_0, .slice A0_1 l0_1.length c0_1], .agg #[.bool a1_0, .slice A1_1 l1_1.length c1_1]] w fun e w' => ∃ v1_ : Value, e = .returned (.agg #[.bool r1, v1_]) ∧ Kd.R (Kd.int .i64) 3 w' w.heap.size (fun _ => True) v1_ r2 ∧ Below w.heap.size w w' := by
 unfold bIsum.f at h
 split at h
 ·rename_i he
  subst he
  obtain ⟨r, hr, h⟩ := Option.bind_eq_some_iff.mp h
  simp only [Option.some.injEq, Prod.mk.injEq] at h
  obtain ⟨rfl, rfl⟩ := h
  exact sum_eq k a0_0 A0_1 c0_1 l0_1 A1_1 c1_1 l1_1 r w hr0_1 hc0_1 hr1_1 hc1_1 hr
 rename_i he
 obtain ⟨t, ht, h⟩ := Option.bind_eq_some_iff.mp h
 obtain ⟨r, hr, h⟩ := Option.bind_eq_some_iff.mp h
 simp only [Option.some.injEq, Prod.mk.injEq] at h
 obtain ⟨rfl, rfl⟩ := h
 exact sum_ne k a0_0 a1_0 t A0_1 c0_1 l0_1 A1_1 c1_1 l1_1 r w hr0_1 hc0_1 hr1_1 hc1_1 (by simpa using he) ht hr
end Go.Proofs.YtihbebbabjklkaaGreatDoor
namespace Go.Proofs.YtihbebbabjklkaaGreatDoor.PA
set_option linter.unusedVariables false
open Go.RowKit Go.Proofs.WWords Go.Proofs.WLast Go.Proofs.WMore
attribute [local go_sem] max2_int min2_int max_two min_two max_three min_three max_four min_four
set_option linter.unusedSimpArgs false
theorem bInumber_size.calls (a0_0 : Bool) (A0_1 : Option Addr) (c0_1 : Nat) (l0_1 : List Int) (r : Int) (w : World) (hL : LaidW w) (hr0_1 : Kd.C (Kd.int .i64) w A0_1 l0_1.length l0_1) (hc0_1 : l0_1.length ≤ c0_1) (h : bInumber_size.f a0_0 l0_1 = some r) :
  Calls Tryz.prog 146 #[.agg #[.bool a0_0, .slice A0_1 l0_1.length c0_1]] w fun e w' => e = .returned (.int .i64 r) ∧ Below w.heap.size w w' := by
 have hu88 := Tryz.underlying122
 have HR0_1 := Z0.mk hr0_1
 have HC0_1 := Z0.mk hc0_1
 clear hr0_1 hc0_1
 have HB := Z0.mk (Below.refl w.heap.size w)
 have H := h
 clear h
 unfold bInumber_size.f at H
 rcases je H with ⟨-, c2b0, c2b1, H⟩ | ⟨c2, c2b0, c2b1, H⟩
 ·obtain rfl := Option.some.inj H
  go_enter Tryz.func146, Tryz.ntmps146
  go_wp2_with (first | ((with_reducible refine gd_ 1 rfl ?_); refine bxE 1 #[.bool a0_0, .slice A0_1 l0_1.length c0_1] 122 ?_; intro gb292 hg w3 hbox hb; have BK292 := Z0.mk hbox; have GW292 := fE HB hg; have GE292 := fE HB hg; replace HB := fB HB hb; clear hb hbox hg; obtain ⟨hcz4_0, hcz4_1, hfz4_0, hfz4_1⟩ := b2 BK292))
  go_ret
  exact finE
 have c2b2 : ¬ (l0_1 = []) := fun h_ => c2 (by rw [h_]; rfl)
 obtain ⟨ji5, hji5⟩ : ∃ j_ : Int, (wrap64 ((l0_1.length : Int) - 1)) = j_ := ⟨_, rfl⟩
 replace H : (if 0 ≤ (ji5) then (if (ji5) < (l0_1.length : Int) then ((strconv_Itoa.f (rd l0_1 (ji5))).bind fun t294 => (some (wrap64 ((wrap64 ((ji5) * 9)) + (t294.size : Int))))) else (none)) else (none)) = some r := by first | (rw [hji5] at H; exact H) | (simp only [hji5] at H ⊢; exact H)
 have hji5w : (IntKind.i64.wrap ((l0_1.length : Int) - 1)) = ji5 := (i64_w _).trans hji5
 obtain ⟨-, c6b0, H⟩ := gd H
 obtain ⟨-, c7b0, H⟩ := gd H
 obtain ⟨t294, A8, H⟩ := bnd H
 obtain rfl := Option.some.inj H
 go_enter Tryz.func146, Tryz.ntmps146
 go_wp2_with (first | ((with_reducible refine gd_ 1 rfl ?_); refine bxE 1 #[.bool a0_0, .slice A0_1 l0_1.length c0_1] 122 ?_; intro gb292 hg w9 hbox hb; have BK292 := Z0.mk hbox; have GW292 := fE HB hg; have GE292 := fE HB hg; replace HB := fB HB hb; clear hb hbox hg; obtain ⟨hcz10_0, hcz10_1, hfz10_0, hfz10_1⟩ := b2 BK292; have p293 : 0 ≤ ((ji5) : Int) := od; have q293 : (ji5) < (l0_1.length : Int) := od; obtain ⟨ad293, e293, hx293_0⟩ := Kd.at_int HR0_1.out (ji5) p293 q293; cases e293; replace hx293_0 := (HB.out.cell (World.block_lt_of_cell? w _ hx293_0)).trans hx293_0; replace p293 := eq_true p293; replace q293 := eq_true q293) | ((with_reducible refine gc_ 135 rfl ?_); refine goesL_ (some 19) rfl rfl Tryz.func135 (by kernel_rfl) rfl #[.int .i64 (rd l0_1 (ji5))] rfl (by (try simp only [List.map_toArray, List.map_cons, List.map_nil]); first | done | (simp only [hji5]; rfl) | rfl | (simp only [List.length_drop, List.length_take]; rfl)) ?_; (with_reducible refine (strconv_Itoa.calls (rd l0_1 (ji5)) t294 _ ?side1 A8.out).mono ?_); (case side1 => exact LaidW.below hL bqs); rintro e w11 ⟨rfl, hb⟩; refine ⟨_, rfl, ?_⟩; replace BK292 := fk BK292 hb; replace HB := fB HB hb; clear hb))
 go_ret
 exact ⟨by first | rfl | (simp [errW_none, errW_some] <;> rfl) | (simp only [← hji5]; first | rfl | (simp [errW_none, errW_some] <;> rfl)) | (simp [*, errW_none, errW_some] <;> rfl), bqs⟩
end Go.Proofs.YtihbebbabjklkaaGreatDoor.PA
namespace Go.Proofs
set_option linter.unusedVariables false
open Go.Shelf
def Tryz.laysB167_ren : Go.Shelf.Ren := ⟨fun | 167 => 133 | 240 => 181 | 276 => 205  | n => n, fun | 0 => 0 | 4 => 4 | 5 => 5 | 9 => 9 | 20 => 20 | 37 => 158 | 70 => 157 | 72 => 160 | 75 => 162 | 80 => 171 | 164 => 211  | n => n, fun | n => n⟩
theorem Tryz.laysB167 : Go.Proofs.Lays.n167 Tryz.prog Tryz.laysB167_ren := {
 mixed := by kernel_rfl
 f167 := Tryz.func133.trans (congrArg some (by kernel_rfl))
 f240 := Tryz.func181.trans (congrArg some (by kernel_rfl))
 f276 := Tryz.func205.trans (congrArg some (by kernel_rfl))
 t0 := Tryz.underlying0
 a0 := Tryz.isAgg0
 z0 := Tryz.sizeOf0
 v0 := Tryz.zeroValue0
 t4 := Tryz.underlying4
 a4 := Tryz.isAgg4
 z4 := Tryz.sizeOf4
 v4 := Tryz.zeroValue4
 t5 := Tryz.underlying5
 a5 := Tryz.isAgg5
 z5 := Tryz.sizeOf5
 v5 := Tryz.zeroValue5
 t9 := Tryz.underlying9
 a9 := Tryz.isAgg9
 z9 := Tryz.sizeOf9
 v9 := Tryz.zeroValue9
 t20 := Tryz.underlying20
 a20 := Tryz.isAgg20
 z20 := Tryz.sizeOf20
 v20 := Tryz.zeroValue20
 t37 := Tryz.underlying158
 a37 := Tryz.isAgg158
 z37 := Tryz.sizeOf158
 v37 := Tryz.zeroValue158
 t70 := Tryz.underlying157
 a70 := Tryz.isAgg157
 z70 := Tryz.sizeOf157
 v70 := Tryz.zeroValue157
 t72 := Tryz.underlying160
 a72 := Tryz.isAgg160
 z72 := Tryz.sizeOf160
 v72 := Tryz.zeroValue160
 t75 := Tryz.underlying162
 a75 := Tryz.isAgg162
 z75 := Tryz.sizeOf162
 v75 := Tryz.zeroValue162
 t164 := Tryz.underlying211
 a164 := Tryz.isAgg211
 z164 := Tryz.sizeOf211
 v164 := Tryz.zeroValue211 }
theorem Tryz.Builder_Extra_B167 : Builder.Extra Tryz.prog Tryz.laysB167_ren := {
 sizeBuilder := by kernel_rfl
 liesBuilder := by kernel_rfl
 t5 := Tryz.underlying5
 a5 := Tryz.isAgg5
 z5 := Tryz.sizeOf5
 v5 := Tryz.zeroValue5
 infoByte := by kernel_rfl
 cellsByte := by kernel_rfl
 sizeByte := by kernel_rfl
 neB5 := by decide }
def Tryz.laysB166_ren : Go.Shelf.Ren := ⟨fun | 166 => 136 | 240 => 181 | 276 => 205  | n => n, fun | 0 => 0 | 3 => 3 | 4 => 4 | 5 => 5 | 9 => 9 | 20 => 20 | 37 => 158 | 70 => 157 | 72 => 160 | 75 => 162 | 80 => 171 | 164 => 211  | n => n, fun | n => n⟩
theorem Tryz.laysB166 : Go.Proofs.Lays.n166 Tryz.prog Tryz.laysB166_ren := {
 mixed := by kernel_rfl
 f166 := Tryz.func136.trans (congrArg some (by kernel_rfl))
 f240 := Tryz.func181.trans (congrArg some (by kernel_rfl))
 f276 := Tryz.func205.trans (congrArg some (by kernel_rfl))
 t0 := Tryz.underlying0
 a0 := Tryz.isAgg0
 z0 := Tryz.sizeOf0
 v0 := Tryz.zeroValue0
 t3 := Tryz.underlying3
 a3 := Tryz.isAgg3
 z3 := Tryz.sizeOf3
 v3 := Tryz.zeroValue3
 t4 := Tryz.underlying4
 a4 := Tryz.isAgg4
 z4 := Tryz.sizeOf4
 v4 := Tryz.zeroValue4
 t9 := Tryz.underlying9
 a9 := Tryz.isAgg9
 z9 := Tryz.sizeOf9
 v9 := Tryz.zeroValue9
 t20 := Tryz.underlying20
 a20 := Tryz.isAgg20
 z20 := Tryz.sizeOf20
 v20 := Tryz.zeroValue20
 t37 := Tryz.underlying158
 a37 := Tryz.isAgg158
 z37 := Tryz.sizeOf158
 v37 := Tryz.zeroValue158
 t70 := Tryz.underlying157
 a70 := Tryz.isAgg157
 z70 := Tryz.sizeOf157
 v70 := Tryz.zeroValue157
 t72 := Tryz.underlying160
 a72 := Tryz.isAgg160
 z72 := Tryz.sizeOf160
 v72 := Tryz.zeroValue160
 t75 := Tryz.underlying162
 a75 := Tryz.isAgg162
 z75 := Tryz.sizeOf162
 v75 := Tryz.zeroValue162
 t164 := Tryz.underlying211
 a164 := Tryz.isAgg211
 z164 := Tryz.sizeOf211
 v164 := Tryz.zeroValue211 }
theorem Tryz.Builder_Extra_B166 : Builder.Extra Tryz.prog Tryz.laysB166_ren := {
 sizeBuilder := by kernel_rfl
 liesBuilder := by kernel_rfl
 t5 := Tryz.underlying5
 a5 := Tryz.isAgg5
 z5 := Tryz.sizeOf5
 v5 := Tryz.zeroValue5
 infoByte := by kernel_rfl
 cellsByte := by kernel_rfl
 sizeByte := by kernel_rfl
 neB5 := by decide }
open Go.RowKit in
theorem Tryz.Builder_WriteByte_k (B b : Nat) (bs : List Value) (c : Int) (w : World) (h : Lib.IsBuilderF 160 5 B b bs w) (hlen : bs.length + 1 ≤ 140737488355328) (hBw : B ≤ w.heap.size) :
  Calls Tryz.prog 133 #[.pointer (some ⟨b, 0, none⟩), .int .u8 c] w fun e w' => e = .returned .nilIface ∧ (Lib.BuilderAtF 160 5 B b (.pointer (some ⟨b, 0, none⟩)) (bs ++ [.int .u8 c]) w' ∧ Below B w w' ∧ Lib.OthersKept 5 (some b) w w') := Any.Builder_WriteByte_k Tryz.laysB167 Tryz.Builder_Extra_B167 B b bs c w h hlen hBw
open Go.RowKit in
theorem Tryz.Builder_WriteString_k (B b : Nat) (bs : List Value) (s : ByteArray) (w : World) (h : Lib.IsBuilderF 160 5 B b bs w) (hlen : bs.length + s.size ≤ 140737488355328) (hBw : B ≤ w.heap.size) :
  Calls Tryz.prog 136 #[.pointer (some ⟨b, 0, none⟩), .string s] w fun e w' => e = .returned (.tuple #[.int .i64 s.size, .nilIface]) ∧ (Lib.BuilderAtF 160 5 B b (.pointer (some ⟨b, 0, none⟩)) (bs ++ Lib.strCells s) w' ∧ Below B w w' ∧ Lib.OthersKept 5 (some b) w w') := Any.Builder_WriteString_k Tryz.laysB166 Tryz.Builder_Extra_B166 B b bs s w h hlen hBw
end Go.Proofs
