import Derived.Test.YthnfajboebaajaaGreatDoorAW
import Derived.Test.YthnfajboebaajaaGreatDoorProg
import Derived.KernelRfl
import Derived.Shelf.Strings.Builder1
import Derived.Shelf.Strings.Builder2
import Derived.Shelf.Strings.Trim
import Derived.Shelf.Small.Utf8
import Derived.Shelf.Small.Strs
import Derived.Shelf.Small.Wraps
import Derived.Shelf.Strings.BuilderF
import Derived.Shelf.Strings.BuilderK
import Derived.Shelf.Strconv.Atoi
import Derived.Shelf.Strconv.Itoa0
import Derived.Shelf.Strconv.Itoa1
import Derived.Shelf.LaysM
import Derived.Shelf.Strconv.Itoa2
import Derived.Shelf.Strconv.Itoa3
import Derived.Shelf.Strings.Search1
import Derived.Shelf.Strings.Search2
import Derived.Shelf.Strings.Search3
import Derived.Shelf.Strings.Shaped
import Derived.Shelf.Strings.Prefix
import Derived.Shelf.Strings.Runes
import Derived.Shelf.Strings.AsciiSet
import Derived.Shelf.Bits.Mul64
import Derived.Shelf.Strings.Repeat
import Derived.Shelf.Unicode.DecodeSlow
import Derived.Shelf.Strings.SlTrimAscii
import Derived.Test.YthnfajboebaajaaGreatDoorAD
import Derived.Lib.LaidTab
import Derived.Lib.AppendIntMem
import Derived.Deep.RegionHeld3
import Derived.WideLaws
import Derived.MapKept
import Derived.RangeFuncOwn
import Derived.RangeFuncNested
import Derived.RangeFuncBound
import Derived.RangeFuncCalls
import Derived.RangeFuncLeaves
import Derived.Shelf.Abstract
import Derived.Shelf.RegionOpen
import Derived.WalkKit
import Derived.OwnWalkIn
import Derived.TacticsInMore
import Derived.LoopNIn
import Derived.LoopIn
import Derived.Lib.Hide
import Derived.Lib.AtoiErrMem
set_option maxHeartbeats 8000000
set_option maxRecDepth 100000
set_option linter.unusedVariables false
namespace Go.Proofs.YthnfajboebaajaaGreatDoor
set_option linter.unusedVariables false
open Go.RowKit Go.Proofs.WWords Go.Proofs.WLast Go.Proofs.WMore
theorem bq {B : Nat} {w W : World} (h : Below B w W := by repeat (first | (with_reducible first | exact HB.out | apply below_alloc | apply pw_below_drewN | apply below_drew1) | exact HB.out)) : Below B w W := h
theorem goB {P : Program} {ops : Array Oper} {Q : Exit → Act → World → Prop} {rest : List Oper} {oi : Oper} {a : Act} {W w0 : World} {f : FuncId} {fn : Func} {ars : Array Operand} {ts : Array TypeId} {v : Value} (N : Option Tmp) (hf : P.funcs[f]? = some fn) (args : Array Value)
    (hB : Below w0.heap.size w0 W) (hc : Calls P f args W fun e w' => e = .returned v ∧ Below W.heap.size W w') (K : ∀ w', Z0 (Below w0.heap.size w0 w') → wpList P ops Q rest (a.put N v) w')
    (hd : oi.dst = N := by rfl) (hg : oi.guard = none := by rfl) (hname : (fn.name == "runtime.NumGoroutine") = false := by kernel_rfl) (hb : fn.body.isSome = true := by rfl) (hop : oi.op = .call { callee := .value (.func f), args := ars, argTypes := ts } := by rfl)
    (hargs : ars.map a.eval = args := by (try simp only [List.map_toArray, List.map_cons, List.map_nil]); first | done | rfl | (simp only [List.length_drop, List.length_take]; rfl)) : wpList P ops Q (oi :: rest) a W := by
  refine goesL_ N hd hg hf hname hb args hop hargs (hc.mono ?_)
  rintro e w' ⟨rfl, hb⟩
  exact ⟨_, rfl, K w' (Z0.mk (below_step hB hb))⟩
theorem goD {P : Program} {ops : Array Oper} {Q : Exit → Act → World → Prop} {rest : List Oper} {oi : Oper} {a : Act} {W : World} {f : FuncId} {fn : Func} {ars : Array Operand} {ts : Array TypeId} {v : Value} (N : Option Tmp) (hf : P.funcs[f]? = some fn) (args : Array Value)
    (hc : Calls P f args W fun e w' => e = .returned v ∧ Drawn0 W w') (K : ∀ nd, wpList P ops Q rest (a.put N v) (W.drewN nd))
    (hd : oi.dst = N := by rfl) (hg : oi.guard = none := by rfl) (hname : (fn.name == "runtime.NumGoroutine") = false := by kernel_rfl) (hb : fn.body.isSome = true := by rfl) (hop : oi.op = .call { callee := .value (.func f), args := ars, argTypes := ts } := by rfl)
    (hargs : ars.map a.eval = args := by (try simp only [List.map_toArray, List.map_cons, List.map_nil]); first | done | rfl | (simp only [List.length_drop, List.length_take]; rfl)) : wpList P ops Q (oi :: rest) a W := by
  refine goesL_ N hd hg hf hname hb args hop hargs (hc.mono ?_)
  rintro e w' ⟨rfl, ⟨nd, rfl⟩⟩
  exact ⟨_, rfl, K nd⟩
theorem bnd {α β : Type} {o : Option α} {f : α → Option β} {r : β} (h : o.bind f = some r) : ∃ x, Z0 (o = some x) ∧ f x = some r := by
 obtain ⟨x, h1, h2⟩ := Option.bind_eq_some_iff.mp h
 exact ⟨x, ⟨h1⟩, h2⟩
theorem bqs {B : Nat} {w W : World} (h : Below B w W := by repeat (first | (with_reducible first | exact HB.out | apply below_alloc | apply pw_below_drewN | apply below_drew1 | refine below_set ?_ (Z0.out (by with_reducible assumption))) | exact HB.out)) : Below B w W := h
theorem kqs {w W : World} {S : Nat → Prop} (h : Kept w W S := by repeat (first | (with_reducible first | exact HK.out | apply Kept.alloc | apply Kept.drewN | apply Kept.drew | refine Kept.setCell ?_ (.inr (Z0.out (by with_reducible assumption))) _) | exact HK.out)) : Kept w W S := h
theorem rq {α : Type} {d : Kd α} {e base : Nat} {ok : Nat → Prop} {W0 W : World} {v : Value} {xs : List α} (h0 : Z0 (d.R e W0 base ok v xs)) (s : d.R e W0 base ok v xs → d.R e W base ok v xs := by intro h_; (with_reducible repeat (first | apply Kd.R_alloc | apply Kd.R_drewN | apply Kd.R_drew)); exact h_) : d.R e W base ok v xs := s h0.out
theorem vq {α : Type} {d : Kd α} {e base : Nat} {ok : Nat → Prop} {W0 W : World} {v : Value} {xs : List α} (h0 : Z0 (d.V e W0 base ok v xs)) (s : d.V e W0 base ok v xs → d.V e W base ok v xs := by intro h_; (with_reducible repeat (first | apply Kd.V_alloc | apply Kd.V_drewN | apply Kd.V_drew)); exact h_) : d.V e W base ok v xs := s h0.out
theorem fR {α : Type} {d : Kd α} {e base : Nat} {ok : Nat → Prop} {W0 W w' : World} {v : Value} {xs : List α} (h0 : Z0 (d.R e W0 base ok v xs)) (hb : Below W.heap.size W w') (s : d.R e W0 base ok v xs → d.R e W base ok v xs := by intro h_; (with_reducible repeat (first | apply Kd.R_alloc | apply Kd.R_drewN | apply Kd.R_drew)); exact h_) : Z0 (d.R e w' base ok v xs) := ⟨Kd.R_below (s h0.out) hb⟩
theorem fV {α : Type} {d : Kd α} {e base : Nat} {ok : Nat → Prop} {W0 W w' : World} {v : Value} {xs : List α} (h0 : Z0 (d.V e W0 base ok v xs)) (hb : Below W.heap.size W w') (s : d.V e W0 base ok v xs → d.V e W base ok v xs := by intro h_; (with_reducible repeat (first | apply Kd.V_alloc | apply Kd.V_drewN | apply Kd.V_drew)); exact h_) : Z0 (d.V e w' base ok v xs) := ⟨Kd.V_below (s h0.out) hb⟩
theorem fB {w W0 W w' : World} (h0 : Z0 (Below w.heap.size w W0)) (hb : Below W.heap.size W w') (s : Below w.heap.size w W := by exact bqs) : Z0 (Below w.heap.size w w') := ⟨below_step s hb⟩
theorem fK {w W0 W w' : World} {S : Nat → Prop} (h0 : Z0 (Kept w W0 S)) (hb : Below W.heap.size W w') (s : Kept w W S := by exact kqs) : Z0 (Kept w w' S) := ⟨Kept.below s hb⟩
theorem fk {W0 W w' : World} {g : Nat} {o : Obj} (h0 : Z0 (W0.heap[g]? = some o)) (hb : Below W.heap.size W w') (s : W0.heap[g]? = some o → W.heap[g]? = some o := by intro h_; (with_reducible repeat (first | refine blk_drewN ?_ _ | refine blk_drew ?_ | refine blk_alloc ?_ _)); exact h_) : Z0 (w'.heap[g]? = some o) := ⟨blk_below (s h0.out) hb⟩
theorem fE {w W0 W : World} {g : Nat} (h0 : Z0 (Below w.heap.size w W0)) (hg : g = W.heap.size) (s : Below w.heap.size w W := by exact bqs) : Z0 (w.heap.size ≤ g) := ⟨hg ▸ below_size s⟩
theorem fW {w W0 W : World} {S : Nat → Prop} {g : Nat} (h0 : Z0 (Kept w W0 S)) (hg : g = W.heap.size) (s : Kept w W S := by exact kqs) : Z0 (w.heap.size ≤ g) := ⟨hg ▸ s.1⟩
theorem fl {W0 W : World} {g g' : Nat} {o : Obj} (h0 : Z0 (W0.heap[g]? = some o)) (hg : g' = W.heap.size) (s : W0.heap[g]? = some o → W.heap[g]? = some o := by intro h_; (with_reducible repeat (first | refine blk_drewN ?_ _ | refine blk_drew ?_ | refine blk_alloc ?_ _)); exact h_) : Z0 (g ≠ g') := ⟨hg ▸ Nat.ne_of_lt (blk_lt (s h0.out))⟩
theorem fg {W0 W : World} {g g' : Nat} {o : Obj} (h0 : Z0 (W0.heap[g]? = some o)) (hg : g' = W.heap.size) (s : W0.heap[g]? = some o → W.heap[g]? = some o := by intro h_; (with_reducible repeat (first | refine blk_drewN ?_ _ | refine blk_drew ?_ | refine blk_alloc ?_ _)); exact h_) : Z0 (g' ≠ g) := ⟨hg ▸ Nat.ne_of_gt (blk_lt (s h0.out))⟩
theorem bxE {P : Program} {ops : Array Oper} {rest : List Oper} {o : Oper} {a : Act} {Q : Exit → Act → World → Prop} {W : World} (N : Tmp) (cs : Array Value) (t : TypeId)
  (h : ∀ (g : Nat), g = W.heap.size → ∀ (w1 : World), w1.heap[g]? = some (Obj.cells cs t) → Below W.heap.size W w1 → wpList P ops Q rest (a.put o.dst (Value.pointer (some ⟨g, 0, none⟩))) w1)
  (hd : o.dst = some N := by rfl) (hg : o.guard = none := by rfl) (hr : Sem.run P (execOp a.eval o) W = Result.ok (Next.value (Value.pointer (some ⟨W.heap.size, 0, none⟩))) (W.alloc (Obj.cells cs t)) := by first | (go_simp; done) | (go_simp; rfl)) : wpList P ops Q (o :: rest) a W := box_event hg hd hr h
theorem finD {p q : Prop} (h : p := by first | rfl | (simp; done) | (simp [*]; done)) (k : q := by repeat (first | exact Drawn0.refl _ | apply Drawn0.step)) : p ∧ q := ⟨h, k⟩
section
variable {α β : Type} {p : Prop} {x y : Option α} {r : α} {s : Option α} {a b : β} {i j : Int}
theorem gn [Decidable p] (h : (if p then x else none) = some r) : p ∧ x = some r := by
 by_cases c : p
 ·rw [if_pos c] at h; exact ⟨c, h⟩
 ·rw [if_neg c] at h; cases h
theorem gd [Decidable p] (h : (if p then x else none) = some r) : p ∧ decide p = true ∧ x = some r := ⟨(gn h).1, decide_eq_true (gn h).1, (gn h).2⟩
theorem gt [Decidable p] (h : (if p then x else none) = some r) : p ∧ p = True ∧ decide p = true ∧ x = some r := ⟨(gn h).1, eq_true (gn h).1, decide_eq_true (gn h).1, (gn h).2⟩
theorem jn [Decidable p] (h : (if p then x else y) = s) : p ∧ x = s ∨ ¬p ∧ y = s := by
 by_cases c : p
 ·rw [if_pos c] at h; exact .inl ⟨c, h⟩
 ·rw [if_neg c] at h; exact .inr ⟨c, h⟩
theorem jd [Decidable p] (h : (if p then x else y) = s) : p ∧ decide p = true ∧ x = s ∨ ¬p ∧ decide p = false ∧ y = s := (jn h).imp (fun c => ⟨c.1, decide_eq_true c.1, c.2⟩) fun c => ⟨c.1, decide_eq_false c.1, c.2⟩
theorem jg (h : (if i > j then x else y) = s) : i > j ∧ decide (j < i) = true ∧ x = s ∨ ¬i > j ∧ decide (j < i) = false ∧ y = s := jd h
theorem jh (h : (if i ≥ j then x else y) = s) : i ≥ j ∧ decide (j ≤ i) = true ∧ x = s ∨ ¬i ≥ j ∧ decide (j ≤ i) = false ∧ y = s := jd h
theorem je [BEq β] [LawfulBEq β] [Decidable (a = b)] (h : (if a = b then x else y) = s) : a = b ∧ (a == b) = true ∧ (a != b) = false ∧ x = s ∨ ¬a = b ∧ (a == b) = false ∧ (a != b) = true ∧ y = s := (jn h).imp (fun c => ⟨c.1, beq_iff_eq.mpr c.1, bne_eq_false_iff_eq.mpr c.1, c.2⟩) fun c => ⟨c.1, beq_eq_false_iff_ne.mpr c.1, bne_iff_ne.mpr c.1, c.2⟩
theorem fQ [BEq β] [LawfulBEq β] [Decidable (a = b)] (h : (if a = b then none else y) = some r) : ¬a = b ∧ (a == b) = false ∧ (a != b) = true ∧ y = some r := (je h).elim (fun c => nomatch c.2.2.2) id
end
theorem yb {α β : Type} {e : α} {f : α → Option β} {r : Option β} (h : (some e).bind f = r) : ∃ y, Z0 (y = e) ∧ f y = r := ⟨e, ⟨rfl⟩, h⟩
theorem cq {α : Type} {k : Kd α} {w0 W : World} {A : Option Addr} {n : Nat} {xs : List α} (h : k.C w0 A n xs) (s : k.C w0 A n xs → k.C W A n xs := by intro h_; repeat (first | exact h_ | (with_reducible refine Kd.C_alloc ?_ _) | (with_reducible refine Kd.C_drewN ?_ _) | (with_reducible refine Kd.C_drew ?_))) : k.C W A n xs := s h
theorem hq {W0 W : World} {g : Nat} {o : Obj} (h0 : Z0 (W0.heap[g]? = some o)) (s : W0.heap[g]? = some o → W.heap[g]? = some o := by intro h_; (with_reducible repeat (first | refine blk_drewN ?_ _ | refine blk_drew ?_ | refine blk_alloc ?_ _)); exact h_) : W.heap[g]? = some o := s h0.out
theorem fN {α : Type} {d : Kd α} {e : Nat} {ok : Nat → Prop} {w W w' : World} {v : Value} {xs : List α} (h : d.R e w' W.heap.size ok v xs) (s : Below w.heap.size w W := by exact bqs) : Z0 (d.R e w' w.heap.size ok v xs) := ⟨Kd.R_lower h (below_size s)⟩
theorem od {P : Prop} [Decidable P] (h : decide P = true := by first | (with_reducible assumption) | assumption) : P := of_decide_eq_true h
theorem fe {p : Prop} (h : p := by first | rfl | (simp [errW_none, errW_some] <;> rfl) | (simp [*, errW_none, errW_some] <;> rfl)) : p := h
theorem finE {p q : Prop} (h : p := by first | rfl | (simp [errW_none, errW_some] <;> rfl) | (simp [*, errW_none, errW_some] <;> rfl)) (k : q := by exact bqs) : p ∧ q := ⟨h, k⟩
theorem fs {p : Prop} (h : p := by first | rfl | (simp; done) | (simp [*]; done)) : p := h
section
variable {w w' : World} {A : Option Addr} {n : Nat} {k : IntKind} {xs : List Int} {ss : List ByteArray}
theorem atI (h : (Kd.int k).C w A n xs) (i : Int) (p : 0 ≤ i := by exact od) (q : i < n := by exact od) : ∃ ad, A = some ad ∧ w.cell? (ad.add i.toNat) = some (.int k (rd xs i)) ∧ (0 ≤ i) = True ∧ (i < n) = True :=
 let ⟨ad, h1, h2⟩ := Kd.at_int h i p q; ⟨ad, h1, h2, eq_true p, eq_true q⟩
theorem atB (HB : Z0 (Below w.heap.size w w')) (h : (Kd.int k).C w A n xs) (i : Int) (p : 0 ≤ i := by exact od) (q : i < n := by exact od) : ∃ ad, A = some ad ∧ w'.cell? (ad.add i.toNat) = some (.int k (rd xs i)) ∧ (0 ≤ i) = True ∧ (i < n) = True :=
 let ⟨ad, h1, h2⟩ := Kd.at_int h i p q; ⟨ad, h1, (HB.out.cell (World.block_lt_of_cell? w _ h2)).trans h2, eq_true p, eq_true q⟩
theorem asI (h : Kd.string.C w A n ss) (i : Int) (p : 0 ≤ i := by exact od) (q : i < n := by exact od) : ∃ ad, A = some ad ∧ w.cell? (ad.add i.toNat) = some (.string (rdOf ByteArray.empty ss i)) ∧ (0 ≤ i) = True ∧ (i < n) = True :=
 let ⟨ad, h1, h2⟩ := Kd.at_string h i p q; ⟨ad, h1, h2, eq_true p, eq_true q⟩
theorem btA (a : ByteArray) (i : Int) (p : 0 ≤ i := by exact od) (q : i < (a.size : Int) := by exact od) : (∀ h : i.toNat < a.size, ((a[i.toNat]'h).toNat : Int) = bt a i) ∧ (0 ≤ i) = True ∧ (i < (a.size : Int)) = True := ⟨bt_at a i, eq_true p, eq_true q⟩
theorem b2 {g : Nat} {t : TypeId} {c d : Value} (h : Z0 (w.heap[g]? = some (.cells #[c, d] t (0, 0)))) : w.cell? ⟨g, 0, none⟩ = some c ∧ w.cell? ⟨g, 1, none⟩ = some d ∧ w.frozen? ⟨g, 0, none⟩ = false ∧ w.frozen? ⟨g, 1, none⟩ = false :=
 ⟨(blk_cell h.out 0).trans rfl, (blk_cell h.out 1).trans rfl, blk_frozen h.out 0, blk_frozen h.out 1⟩
theorem b4 {g : Nat} {t : TypeId} {c d e f : Value} (h : Z0 (w.heap[g]? = some (.cells #[c, d, e, f] t (0, 0)))) : w.cell? ⟨g, 0, none⟩ = some c ∧ w.cell? ⟨g, 1, none⟩ = some d ∧ w.cell? ⟨g, 2, none⟩ = some e ∧ w.cell? ⟨g, 3, none⟩ = some f ∧ w.frozen? ⟨g, 0, none⟩ = false ∧ w.frozen? ⟨g, 1, none⟩ = false ∧ w.frozen? ⟨g, 2, none⟩ = false ∧ w.frozen? ⟨g, 3, none⟩ = false :=
 ⟨(blk_cell h.out 0).trans rfl, (blk_cell h.out 1).trans rfl, (blk_cell h.out 2).trans rfl, (blk_cell h.out 3).trans rfl, blk_frozen h.out 0, blk_frozen h.out 1, blk_frozen h.out 2, blk_frozen h.out 3⟩
end
section
variable {P : Program} {ops : Array Oper} {Q : Exit → Act → World → Prop} {rest : List Oper} {o : Oper} {a : Act} {W : World}
theorem gc_ (f : FuncId) {ars : Array Operand} {ts : Array TypeId} (_ho : o.op = .call { callee := .value (.func f), args := ars, argTypes := ts }) (h : wpList P ops Q (o :: rest) a W) : wpList P ops Q (o :: rest) a W := h
theorem gd_ (N : Tmp) (_hN : o.dst = some N) (h : wpList P ops Q (o :: rest) a W) : wpList P ops Q (o :: rest) a W := h
theorem gL {f : FuncId} {fn : Func} {ars : Array Operand} {ts : Array TypeId} {args : Array Value} {R : Ending → World → Prop} (N : Tmp) (hf : P.funcs[f]? = some fn)
  (hc : Calls P f args W R) (K : ∀ e w', R e w' → ∃ v, e = .returned v ∧ wpList P ops Q rest (a.put (some N) v) w')
  (hd : o.dst = some N := by rfl) (hg : o.guard = none := by rfl) (hname : (fn.name == "runtime.NumGoroutine") = false := by kernel_rfl) (hb : fn.body.isSome = true := by rfl) (hop : o.op = .call { callee := .value (.func f), args := ars, argTypes := ts } := by rfl)
  (hargs : ars.map a.eval = args := by (try simp only [List.map_toArray, List.map_cons, List.map_nil]); first | done | rfl | (simp only [List.length_drop, List.length_take]; rfl)) : wpList P ops Q (o :: rest) a W :=
 goesL_ (some N) hd hg hf hname hb args hop hargs (hc.mono K)
end
end Go.Proofs.YthnfajboebaajaaGreatDoor
namespace Go.Proofs
set_option linter.unusedVariables false
open Go.Shelf
def Tryz.lays169_ren : Go.Shelf.Ren := ⟨fun | 169 => 132 | n => n, fun | 70 => 125 | 9 => 9 | 0 => 0 | 72 => 127 | 37 => 101 | 127 => 163 | 3 => 3 | 5 => 5 | n => n, fun | n => n⟩
theorem Tryz.lays169 : Go.Proofs.Lays.n169 Tryz.prog Tryz.lays169_ren := {
 mixed := by kernel_rfl
 f169 := Tryz.func132.trans (congrArg some (by kernel_rfl))
 t0 := Tryz.underlying0
 a0 := Tryz.isAgg0
 z0 := Tryz.sizeOf0
 v0 := Tryz.zeroValue0
 t3 := Tryz.underlying3
 a3 := Tryz.isAgg3
 z3 := Tryz.sizeOf3
 v3 := Tryz.zeroValue3
 t9 := Tryz.underlying9
 a9 := Tryz.isAgg9
 z9 := Tryz.sizeOf9
 v9 := Tryz.zeroValue9
 t37 := Tryz.underlying101
 a37 := Tryz.isAgg101
 z37 := Tryz.sizeOf101
 v37 := Tryz.zeroValue101
 t70 := Tryz.underlying125
 a70 := Tryz.isAgg125
 z70 := Tryz.sizeOf125
 v70 := Tryz.zeroValue125
 t72 := Tryz.underlying127
 a72 := Tryz.isAgg127
 z72 := Tryz.sizeOf127
 v72 := Tryz.zeroValue127
 t127 := Tryz.underlying163
 a127 := Tryz.isAgg163
 z127 := Tryz.sizeOf163
 v127 := Tryz.zeroValue163 }
theorem Tryz.Builder_Extra_169 : Builder.Extra Tryz.prog Tryz.lays169_ren := {
 sizeBuilder := by kernel_rfl
 liesBuilder := by kernel_rfl
 t5 := Tryz.underlying5
 a5 := Tryz.isAgg5
 z5 := Tryz.sizeOf5
 v5 := Tryz.zeroValue5
 infoByte := by kernel_rfl
 cellsByte := by kernel_rfl
 sizeByte := by kernel_rfl
 neB5 := by decide }
def Tryz.lays160_ren : Go.Shelf.Ren := ⟨fun | 160 => 160 | 232 => 186 | 231 => 185 | 227 => 187 | 234 => 189 | 233 => 188 | 236 => 191 | 235 => 190 | 228 => 203 | 271 => 206 | 151 => 205 | 197 => 204 | 120 => 216 | 152 => 215 | 260 => 214 | 137 => 112 | 119 => 227 | 224 => 182 | 225 => 181 | 217 => 150 | 266 => 180 | n => n, fun | 9 => 9 | 4 => 4 | 3 => 3 | 5 => 5 | 117 => 170 | 116 => 169 | 0 => 0 | 124 => 173 | 21 => 21 | 105 => 188 | 46 => 159 | 119 => 209 | 139 => 212 | 138 => 211 | n => n, fun | 3 => 2 | 4 => 3 | n => n⟩
theorem Tryz.lays160 : Go.Proofs.Lays.n160 Tryz.prog Tryz.lays160_ren := {
 mixed := by kernel_rfl
 f119 := Tryz.func227.trans (congrArg some (by kernel_rfl))
 f120 := Tryz.func216.trans (congrArg some (by kernel_rfl))
 f137 := Tryz.func112.trans (congrArg some (by kernel_rfl))
 f151 := Tryz.func205.trans (congrArg some (by kernel_rfl))
 f152 := Tryz.func215.trans (congrArg some (by kernel_rfl))
 f160 := Tryz.func160.trans (congrArg some (by kernel_rfl))
 f197 := Tryz.func204.trans (congrArg some (by kernel_rfl))
 f217 := Tryz.func150.trans (congrArg some (by kernel_rfl))
 f224 := Tryz.func182.trans (congrArg some (by kernel_rfl))
 f225 := Tryz.func181.trans (congrArg some (by kernel_rfl))
 f227 := Tryz.func187.trans (congrArg some (by kernel_rfl))
 f228 := Tryz.func203.trans (congrArg some (by kernel_rfl))
 f231 := Tryz.func185.trans (congrArg some (by kernel_rfl))
 f232 := Tryz.func186.trans (congrArg some (by kernel_rfl))
 f233 := Tryz.func188.trans (congrArg some (by kernel_rfl))
 f234 := Tryz.func189.trans (congrArg some (by kernel_rfl))
 f235 := Tryz.func190.trans (congrArg some (by kernel_rfl))
 f236 := Tryz.func191.trans (congrArg some (by kernel_rfl))
 f260 := Tryz.func214.trans (congrArg some (by kernel_rfl))
 f266 := Tryz.func180.trans (congrArg some (by kernel_rfl))
 f271 := Tryz.func206.trans (congrArg some (by kernel_rfl))
 t0 := Tryz.underlying0
 a0 := Tryz.isAgg0
 z0 := Tryz.sizeOf0
 v0 := Tryz.zeroValue0
 t3 := Tryz.underlying3
 a3 := Tryz.isAgg3
 z3 := Tryz.sizeOf3
 v3 := Tryz.zeroValue3
 t4 := Tryz.underlying4
 a4 := Tryz.isAgg4
 z4 := Tryz.sizeOf4
 v4 := Tryz.zeroValue4
 t5 := Tryz.underlying5
 a5 := Tryz.isAgg5
 z5 := Tryz.sizeOf5
 v5 := Tryz.zeroValue5
 t9 := Tryz.underlying9
 a9 := Tryz.isAgg9
 z9 := Tryz.sizeOf9
 v9 := Tryz.zeroValue9
 t21 := Tryz.underlying21
 a21 := Tryz.isAgg21
 z21 := Tryz.sizeOf21
 v21 := Tryz.zeroValue21
 t46 := Tryz.underlying159
 a46 := Tryz.isAgg159
 z46 := Tryz.sizeOf159
 v46 := Tryz.zeroValue159
 t105 := Tryz.underlying188
 a105 := Tryz.isAgg188
 z105 := Tryz.sizeOf188
 v105 := Tryz.zeroValue188
 t116 := Tryz.underlying169
 a116 := Tryz.isAgg169
 z116 := Tryz.sizeOf169
 t117 := Tryz.underlying170
 a117 := Tryz.isAgg170
 z117 := Tryz.sizeOf170
 v117 := Tryz.zeroValue170
 t119 := Tryz.underlying209
 a119 := Tryz.isAgg209
 z119 := Tryz.sizeOf209
 t124 := Tryz.underlying173
 a124 := Tryz.isAgg173
 z124 := Tryz.sizeOf173
 v124 := Tryz.zeroValue173
 t138 := Tryz.underlying211
 a138 := Tryz.isAgg211
 z138 := Tryz.sizeOf211
 v138 := Tryz.zeroValue211
 t139 := Tryz.underlying212
 a139 := Tryz.isAgg212
 z139 := Tryz.sizeOf212
 v139 := Tryz.zeroValue212
 g3 := by kernel_rfl
 g4 := by kernel_rfl }
def Tryz.lays137_ren : Go.Shelf.Ren := ⟨fun | 137 => 112 | 217 => 150 | 266 => 180 | n => n, fun | 9 => 9 | 5 => 5 | 3 => 3 | n => n, fun | n => n⟩
theorem Tryz.lays137 : Go.Proofs.Lays.n137 Tryz.prog Tryz.lays137_ren := {
 mixed := by kernel_rfl
 f137 := Tryz.func112.trans (congrArg some (by kernel_rfl))
 f217 := Tryz.func150.trans (congrArg some (by kernel_rfl))
 f266 := Tryz.func180.trans (congrArg some (by kernel_rfl))
 t3 := Tryz.underlying3
 a3 := Tryz.isAgg3
 z3 := Tryz.sizeOf3
 v3 := Tryz.zeroValue3
 t5 := Tryz.underlying5
 a5 := Tryz.isAgg5
 z5 := Tryz.sizeOf5
 v5 := Tryz.zeroValue5
 t9 := Tryz.underlying9
 a9 := Tryz.isAgg9
 z9 := Tryz.sizeOf9
 v9 := Tryz.zeroValue9 }
open Go.RowKit in
theorem Tryz.strings_IndexByte (s : ByteArray) (c : Int) (w : World) :
  Calls Tryz.prog 112 #[.string s, .int .u8 c] w fun e w' => e = .returned (.int .i64 (Lib.indexByte s.data.toList c.toNat.toUInt8)) ∧ w' = w := Any.strings_IndexByte Tryz.lays137 s c w
def Tryz.lays103_ren : Go.Shelf.Ren := ⟨fun | 103 => 159 | 210 => 184 | 206 => 179 | n => n, fun | 9 => 9 | 4 => 4 | 24 => 152 | 3 => 3 | n => n, fun | n => n⟩
theorem Tryz.lays103 : Go.Proofs.Lays.n103 Tryz.prog Tryz.lays103_ren := {
 mixed := by kernel_rfl
 f103 := Tryz.func159.trans (congrArg some (by kernel_rfl))
 f206 := Tryz.func179.trans (congrArg some (by kernel_rfl))
 f210 := Tryz.func184.trans (congrArg some (by kernel_rfl))
 t3 := Tryz.underlying3
 a3 := Tryz.isAgg3
 z3 := Tryz.sizeOf3
 v3 := Tryz.zeroValue3
 t4 := Tryz.underlying4
 a4 := Tryz.isAgg4
 z4 := Tryz.sizeOf4
 v4 := Tryz.zeroValue4
 t9 := Tryz.underlying9
 a9 := Tryz.isAgg9
 z9 := Tryz.sizeOf9
 v9 := Tryz.zeroValue9
 t24 := Tryz.underlying152
 a24 := Tryz.isAgg152
 z24 := Tryz.sizeOf152
 v24 := Tryz.zeroValue152 }
open Go.RowKit in
theorem Tryz.strings_CutPrefix (s p : ByteArray) (w : World) :
  Calls Tryz.prog 159 #[.string s, .string p] w fun e w' => e = .returned (.tuple #[.string ⟨(Lib.trimPrefix s.data.toList p.data.toList).toArray⟩, .bool (Lib.hasPrefix s.data.toList p.data.toList)]) ∧ w' = w := Any.strings_CutPrefix Tryz.lays103 s p w
open Go.RowKit in
theorem Tryz.Builder_String_any_k (B b : Nat) (l : List UInt8) (w : World) (h : Lib.IsBuilderF 127 5 B b (Lib.byteCells l) w) (hBw : B ≤ w.heap.size) :
  Calls Tryz.prog 132 #[.pointer (some ⟨b, 0, none⟩)] w fun e w' => e = .returned (.string ⟨l.toArray⟩) ∧ (Lib.IsBuilderF 127 5 B b (Lib.byteCells l) w' ∧ Below B w w' ∧ Lib.OthersKept 5 (some b) w w') := Any.Builder_String_any_k Tryz.lays169 Tryz.Builder_Extra_169 B b l w h hBw
def Tryz.lays172_ren : Go.Shelf.Ren := ⟨fun | 172 => 194 | 244 => 207 | 245 => 208 | 247 => 217 | 279 => 218 | 280 => 219 | 281 => 220 | 282 => 221 | 287 => 228 | 316 => 229 | 171 => 129 | 205 => 230 | 321 => 233 | 322 => 234 | 243 => 168 | 246 => 196 | 283 => 209 | 284 => 210 | 285 => 211 | 286 => 212 | 129 => 223 | 317 => 222 | 318 => 224 | 319 => 225 | 320 => 226 | 337 => 231 | 338 => 232 | n => n, fun | 9 => 9 | 3 => 3 | 75 => 129 | 76 => 135 | 4 => 4 | 5 => 5 | 167 => 199 | 37 => 101 | 0 => 0 | 85 => 200 | 2 => 2 | 168 => 202 | 53 => 182 | 175 => 214 | 46 => 159 | 210 => 218 | 127 => 163 | 145 => 225 | 143 => 223 | 21 => 21 | 171 => 192 | 173 => 195 | 212 => 206 | 51 => 179 | 20 => 20 | 213 => 207 | 232 => 226 | 233 => 227 | 80 => 138 | n => n, fun | 15 => 4 | 16 => 5 | 17 => 1 | 18 => 6 | 19 => 7 | n => n⟩
theorem Tryz.lays172 : Go.Proofs.Lays.n172 Tryz.prog Tryz.lays172_ren := {
 mixed := by kernel_rfl
 f129 := Tryz.func223.trans (congrArg some (by kernel_rfl))
 f171 := Tryz.func129.trans (congrArg some (by kernel_rfl))
 f172 := Tryz.func194.trans (congrArg some (by kernel_rfl))
 f205 := Tryz.func230.trans (congrArg some (by kernel_rfl))
 f243 := Tryz.func168.trans (congrArg some (by kernel_rfl))
 f244 := Tryz.func207.trans (congrArg some (by kernel_rfl))
 f245 := Tryz.func208.trans (congrArg some (by kernel_rfl))
 f246 := Tryz.func196.trans (congrArg some (by kernel_rfl))
 f247 := Tryz.func217.trans (congrArg some (by kernel_rfl))
 f279 := Tryz.func218.trans (congrArg some (by kernel_rfl))
 f280 := Tryz.func219.trans (congrArg some (by kernel_rfl))
 f281 := Tryz.func220.trans (congrArg some (by kernel_rfl))
 f282 := Tryz.func221.trans (congrArg some (by kernel_rfl))
 f283 := Tryz.func209.trans (congrArg some (by kernel_rfl))
 f284 := Tryz.func210.trans (congrArg some (by kernel_rfl))
 f285 := Tryz.func211.trans (congrArg some (by kernel_rfl))
 f286 := Tryz.func212.trans (congrArg some (by kernel_rfl))
 f287 := Tryz.func228.trans (congrArg some (by kernel_rfl))
 f316 := Tryz.func229.trans (congrArg some (by kernel_rfl))
 f317 := Tryz.func222.trans (congrArg some (by kernel_rfl))
 f318 := Tryz.func224.trans (congrArg some (by kernel_rfl))
 f319 := Tryz.func225.trans (congrArg some (by kernel_rfl))
 f320 := Tryz.func226.trans (congrArg some (by kernel_rfl))
 f321 := Tryz.func233.trans (congrArg some (by kernel_rfl))
 f322 := Tryz.func234.trans (congrArg some (by kernel_rfl))
 f337 := Tryz.func231.trans (congrArg some (by kernel_rfl))
 f338 := Tryz.func232.trans (congrArg some (by kernel_rfl))
 t0 := Tryz.underlying0
 a0 := Tryz.isAgg0
 z0 := Tryz.sizeOf0
 v0 := Tryz.zeroValue0
 t2 := Tryz.underlying2
 a2 := Tryz.isAgg2
 z2 := Tryz.sizeOf2
 v2 := Tryz.zeroValue2
 t3 := Tryz.underlying3
 a3 := Tryz.isAgg3
 z3 := Tryz.sizeOf3
 v3 := Tryz.zeroValue3
 t4 := Tryz.underlying4
 a4 := Tryz.isAgg4
 z4 := Tryz.sizeOf4
 v4 := Tryz.zeroValue4
 t5 := Tryz.underlying5
 a5 := Tryz.isAgg5
 z5 := Tryz.sizeOf5
 v5 := Tryz.zeroValue5
 t9 := Tryz.underlying9
 a9 := Tryz.isAgg9
 z9 := Tryz.sizeOf9
 v9 := Tryz.zeroValue9
 t20 := Tryz.underlying20
 a20 := Tryz.isAgg20
 z20 := Tryz.sizeOf20
 v20 := Tryz.zeroValue20
 t21 := Tryz.underlying21
 a21 := Tryz.isAgg21
 z21 := Tryz.sizeOf21
 v21 := Tryz.zeroValue21
 t37 := Tryz.underlying101
 a37 := Tryz.isAgg101
 z37 := Tryz.sizeOf101
 v37 := Tryz.zeroValue101
 t46 := Tryz.underlying159
 a46 := Tryz.isAgg159
 z46 := Tryz.sizeOf159
 v46 := Tryz.zeroValue159
 t51 := Tryz.underlying179
 a51 := Tryz.isAgg179
 z51 := Tryz.sizeOf179
 v51 := Tryz.zeroValue179
 t53 := Tryz.underlying182
 a53 := Tryz.isAgg182
 z53 := Tryz.sizeOf182
 v53 := Tryz.zeroValue182
 t75 := Tryz.underlying129
 a75 := Tryz.isAgg129
 z75 := Tryz.sizeOf129
 v75 := Tryz.zeroValue129
 t76 := Tryz.underlying135
 a76 := Tryz.isAgg135
 z76 := Tryz.sizeOf135
 v76 := Tryz.zeroValue135
 t85 := Tryz.underlying200
 a85 := Tryz.isAgg200
 z85 := Tryz.sizeOf200
 v85 := Tryz.zeroValue200
 t127 := Tryz.underlying163
 a127 := Tryz.isAgg163
 z127 := Tryz.sizeOf163
 v127 := Tryz.zeroValue163
 t143 := Tryz.underlying223
 a143 := Tryz.isAgg223
 z143 := Tryz.sizeOf223
 v143 := Tryz.zeroValue223
 t145 := Tryz.underlying225
 a145 := Tryz.isAgg225
 z145 := Tryz.sizeOf225
 v145 := Tryz.zeroValue225
 t167 := Tryz.underlying199
 a167 := Tryz.isAgg199
 z167 := Tryz.sizeOf199
 v167 := Tryz.zeroValue199
 t168 := Tryz.underlying202
 a168 := Tryz.isAgg202
 z168 := Tryz.sizeOf202
 v168 := Tryz.zeroValue202
 t171 := Tryz.underlying192
 a171 := Tryz.isAgg192
 z171 := Tryz.sizeOf192
 v171 := Tryz.zeroValue192
 t173 := Tryz.underlying195
 a173 := Tryz.isAgg195
 z173 := Tryz.sizeOf195
 v173 := Tryz.zeroValue195
 t175 := Tryz.underlying214
 a175 := Tryz.isAgg214
 z175 := Tryz.sizeOf214
 v175 := Tryz.zeroValue214
 t210 := Tryz.underlying218
 a210 := Tryz.isAgg218
 z210 := Tryz.sizeOf218
 v210 := Tryz.zeroValue218
 t212 := Tryz.underlying206
 a212 := Tryz.isAgg206
 z212 := Tryz.sizeOf206
 v212 := Tryz.zeroValue206
 t213 := Tryz.underlying207
 a213 := Tryz.isAgg207
 z213 := Tryz.sizeOf207
 t232 := Tryz.underlying226
 a232 := Tryz.isAgg226
 z232 := Tryz.sizeOf226
 v232 := Tryz.zeroValue226
 t233 := Tryz.underlying227
 a233 := Tryz.isAgg227
 z233 := Tryz.sizeOf227
 v233 := Tryz.zeroValue227
 g15 := by kernel_rfl
 g16 := by kernel_rfl
 g17 := by kernel_rfl
 g18 := by kernel_rfl
 g19 := by kernel_rfl }
open Go.RowKit in
theorem Tryz.strconv_Atoi (s : ByteArray) (n : Int) (hl : s.size ≤ 18) (h : Lib.atoi s.data.toList = some n) (w : World) :
  Calls Tryz.prog 194 #[.string s] w fun e w' => e = .returned (.tuple #[.int .i64 n, .nilIface]) ∧ ∃ t, w' = Lib.bytesWorld w 5 t := Any.strconv_Atoi Tryz.lays172 s n hl h w
def Tryz.laysM171_ren : Go.Shelf.Ren := ⟨fun | 171 => 129 | 243 => 168 | 246 => 196 | 283 => 209 | 284 => 210 | 285 => 211 | 286 => 212 | 129 => 223 | 317 => 222 | 318 => 224 | 319 => 225 | 320 => 226 | 337 => 231 | 338 => 232 | n => n, fun | 3 => 3 | 9 => 9 | 2 => 2 | 4 => 4 | 171 => 192 | 0 => 0 | 53 => 182 | 37 => 101 | 5 => 5 | 173 => 195 | 212 => 206 | 51 => 179 | 20 => 20 | 213 => 207 | 46 => 159 | 232 => 226 | 233 => 227 | n => n, fun | 17 => 1 | 18 => 6 | 19 => 7 | n => n⟩
theorem Tryz.laysM171 : Go.Proofs.LaysM.n171 Tryz.prog Tryz.laysM171_ren := {
 mixed := by kernel_rfl
 f129 := Tryz.func223.trans (congrArg some (by kernel_rfl))
 f171 := Tryz.func129.trans (congrArg some (by kernel_rfl))
 f243 := Tryz.func168.trans (congrArg some (by kernel_rfl))
 f246 := Tryz.func196.trans (congrArg some (by kernel_rfl))
 f283 := Tryz.func209.trans (congrArg some (by kernel_rfl))
 f284 := Tryz.func210.trans (congrArg some (by kernel_rfl))
 f285 := Tryz.func211.trans (congrArg some (by kernel_rfl))
 f286 := Tryz.func212.trans (congrArg some (by kernel_rfl))
 f317 := Tryz.func222.trans (congrArg some (by kernel_rfl))
 f318 := Tryz.func224.trans (congrArg some (by kernel_rfl))
 f319 := Tryz.func225.trans (congrArg some (by kernel_rfl))
 f320 := Tryz.func226.trans (congrArg some (by kernel_rfl))
 f337 := Tryz.func231.trans (congrArg some (by kernel_rfl))
 f338 := Tryz.func232.trans (congrArg some (by kernel_rfl))
 t0 := Tryz.underlying0
 a0 := Tryz.isAgg0
 z0 := Tryz.sizeOf0
 v0 := Tryz.zeroValue0
 t2 := Tryz.underlying2
 a2 := Tryz.isAgg2
 z2 := Tryz.sizeOf2
 v2 := Tryz.zeroValue2
 t3 := Tryz.underlying3
 a3 := Tryz.isAgg3
 z3 := Tryz.sizeOf3
 v3 := Tryz.zeroValue3
 t4 := Tryz.underlying4
 a4 := Tryz.isAgg4
 z4 := Tryz.sizeOf4
 v4 := Tryz.zeroValue4
 t5 := Tryz.underlying5
 a5 := Tryz.isAgg5
 z5 := Tryz.sizeOf5
 v5 := Tryz.zeroValue5
 t9 := Tryz.underlying9
 a9 := Tryz.isAgg9
 z9 := Tryz.sizeOf9
 v9 := Tryz.zeroValue9
 t20 := Tryz.underlying20
 a20 := Tryz.isAgg20
 z20 := Tryz.sizeOf20
 v20 := Tryz.zeroValue20
 t37 := Tryz.underlying101
 a37 := Tryz.isAgg101
 z37 := Tryz.sizeOf101
 v37 := Tryz.zeroValue101
 t46 := Tryz.underlying159
 a46 := Tryz.isAgg159
 z46 := Tryz.sizeOf159
 v46 := Tryz.zeroValue159
 t51 := Tryz.underlying179
 a51 := Tryz.isAgg179
 z51 := Tryz.sizeOf179
 v51 := Tryz.zeroValue179
 t53 := Tryz.underlying182
 a53 := Tryz.isAgg182
 z53 := Tryz.sizeOf182
 v53 := Tryz.zeroValue182
 t171 := Tryz.underlying192
 a171 := Tryz.isAgg192
 z171 := Tryz.sizeOf192
 v171 := Tryz.zeroValue192
 t173 := Tryz.underlying195
 a173 := Tryz.isAgg195
 z173 := Tryz.sizeOf195
 v173 := Tryz.zeroValue195
 t212 := Tryz.underlying206
 a212 := Tryz.isAgg206
 z212 := Tryz.sizeOf206
 v212 := Tryz.zeroValue206
 t213 := Tryz.underlying207
 a213 := Tryz.isAgg207
 z213 := Tryz.sizeOf207
 t232 := Tryz.underlying226
 a232 := Tryz.isAgg226
 z232 := Tryz.sizeOf226
 v232 := Tryz.zeroValue226
 t233 := Tryz.underlying227
 a233 := Tryz.isAgg227
 z233 := Tryz.sizeOf227
 v233 := Tryz.zeroValue227
 g17 := by kernel_rfl
 g18 := by kernel_rfl
 g19 := by kernel_rfl
 i0 := by kernel_rfl
 i2 := by kernel_rfl
 i3 := by kernel_rfl
 i4 := by kernel_rfl
 i5 := by kernel_rfl
 i9 := by kernel_rfl
 i20 := by kernel_rfl
 i37 := by kernel_rfl
 i46 := by kernel_rfl
 i51 := by kernel_rfl
 i53 := by kernel_rfl
 i171 := by kernel_rfl
 i173 := by kernel_rfl
 i212 := by kernel_rfl
 i232 := by kernel_rfl
 i233 := by kernel_rfl
 m17 := by kernel_rfl
 m18 := by kernel_rfl
 m19 := by kernel_rfl }
open Go.RowKit Go.Sort Go.Lib in
theorem Tryz.strconv_Itoa (n : Int) (h0 : -9223372036854775808 ≤ n) (h1 : n ≤ 9223372036854775807) (w : World) (htab : Lib.TabIs Tryz.prog w "internal/strconv.uint64pow10" .u64 Lib.pow10Tab) :
  Calls Tryz.prog 129 #[.int .i64 n] w fun e w' => e = .returned (.string ⟨(Lib.itoa n).toArray⟩) ∧ ∃ k os, w' = grow (w.drewN k) os := Any.strconv_Itoa Tryz.laysM171 n h0 h1 w htab
def Tryz.lays144_ren : Go.Shelf.Ren := ⟨fun | 144 => 78 | 143 => 116 | 219 => 154 | 217 => 150 | 225 => 181 | 224 => 182 | 267 => 183 | 266 => 180 | 314 => 202 | n => n, fun | 9 => 9 | 4 => 4 | 3 => 3 | 5 => 5 | 46 => 159 | 146 => 180 | 51 => 179 | n => n, fun | 1 => 0 | n => n⟩
theorem Tryz.lays144 : Go.Proofs.Lays.n144 Tryz.prog Tryz.lays144_ren := {
 mixed := by kernel_rfl
 f143 := Tryz.func116.trans (congrArg some (by kernel_rfl))
 f144 := Tryz.func78.trans (congrArg some (by kernel_rfl))
 f217 := Tryz.func150.trans (congrArg some (by kernel_rfl))
 f219 := Tryz.func154.trans (congrArg some (by kernel_rfl))
 f224 := Tryz.func182.trans (congrArg some (by kernel_rfl))
 f225 := Tryz.func181.trans (congrArg some (by kernel_rfl))
 f266 := Tryz.func180.trans (congrArg some (by kernel_rfl))
 f267 := Tryz.func183.trans (congrArg some (by kernel_rfl))
 f314 := Tryz.func202.trans (congrArg some (by kernel_rfl))
 t3 := Tryz.underlying3
 a3 := Tryz.isAgg3
 z3 := Tryz.sizeOf3
 v3 := Tryz.zeroValue3
 t4 := Tryz.underlying4
 a4 := Tryz.isAgg4
 z4 := Tryz.sizeOf4
 v4 := Tryz.zeroValue4
 t5 := Tryz.underlying5
 a5 := Tryz.isAgg5
 z5 := Tryz.sizeOf5
 v5 := Tryz.zeroValue5
 t9 := Tryz.underlying9
 a9 := Tryz.isAgg9
 z9 := Tryz.sizeOf9
 v9 := Tryz.zeroValue9
 t46 := Tryz.underlying159
 a46 := Tryz.isAgg159
 z46 := Tryz.sizeOf159
 v46 := Tryz.zeroValue159
 t51 := Tryz.underlying179
 a51 := Tryz.isAgg179
 z51 := Tryz.sizeOf179
 v51 := Tryz.zeroValue179
 t146 := Tryz.underlying180
 a146 := Tryz.isAgg180
 z146 := Tryz.sizeOf180
 v146 := Tryz.zeroValue180
 g1 := by kernel_rfl }
open Go.RowKit Go.Lib in
theorem Tryz.strings_Contains_one (s : ByteArray) (c : UInt8) (w : World) :
  Calls Tryz.prog 78 #[.string s, .string ⟨#[c]⟩] w fun e w' => e = .returned (.bool (decide (0 ≤ Lib.indexByte s.data.toList c))) ∧ w' = w := Any.strings_Contains_one Tryz.lays144 s c w
def Tryz.lays105_ren : Go.Shelf.Ren := ⟨fun | 105 => 131 | 212 => 169 | 99 => 170 | 165 => 171 | 166 => 130 | 170 => 172 | 169 => 132 | 263 => 197 | 264 => 198 | 206 => 179 | 240 => 166 | 241 => 199 | 276 => 195 | 277 => 213 | n => n, fun | 9 => 9 | 3 => 3 | 4 => 4 | 20 => 20 | 0 => 0 | 46 => 159 | 109 => 160 | 5 => 5 | 72 => 127 | 76 => 135 | 51 => 179 | 146 => 180 | 53 => 182 | 148 => 183 | 70 => 125 | 37 => 101 | 75 => 129 | 127 => 163 | 164 => 176 | 80 => 138 | n => n, fun | n => n⟩
theorem Tryz.lays105 : Go.Proofs.Lays.n105 Tryz.prog Tryz.lays105_ren := {
 mixed := by kernel_rfl
 f99 := Tryz.func170.trans (congrArg some (by kernel_rfl))
 f105 := Tryz.func131.trans (congrArg some (by kernel_rfl))
 f165 := Tryz.func171.trans (congrArg some (by kernel_rfl))
 f166 := Tryz.func130.trans (congrArg some (by kernel_rfl))
 f169 := Tryz.func132.trans (congrArg some (by kernel_rfl))
 f170 := Tryz.func172.trans (congrArg some (by kernel_rfl))
 f206 := Tryz.func179.trans (congrArg some (by kernel_rfl))
 f212 := Tryz.func169.trans (congrArg some (by kernel_rfl))
 f240 := Tryz.func166.trans (congrArg some (by kernel_rfl))
 f241 := Tryz.func199.trans (congrArg some (by kernel_rfl))
 f263 := Tryz.func197.trans (congrArg some (by kernel_rfl))
 f264 := Tryz.func198.trans (congrArg some (by kernel_rfl))
 f276 := Tryz.func195.trans (congrArg some (by kernel_rfl))
 f277 := Tryz.func213.trans (congrArg some (by kernel_rfl))
 t0 := Tryz.underlying0
 a0 := Tryz.isAgg0
 z0 := Tryz.sizeOf0
 v0 := Tryz.zeroValue0
 t3 := Tryz.underlying3
 a3 := Tryz.isAgg3
 z3 := Tryz.sizeOf3
 v3 := Tryz.zeroValue3
 t4 := Tryz.underlying4
 a4 := Tryz.isAgg4
 z4 := Tryz.sizeOf4
 v4 := Tryz.zeroValue4
 t5 := Tryz.underlying5
 a5 := Tryz.isAgg5
 z5 := Tryz.sizeOf5
 v5 := Tryz.zeroValue5
 t9 := Tryz.underlying9
 a9 := Tryz.isAgg9
 z9 := Tryz.sizeOf9
 v9 := Tryz.zeroValue9
 t20 := Tryz.underlying20
 a20 := Tryz.isAgg20
 z20 := Tryz.sizeOf20
 v20 := Tryz.zeroValue20
 t37 := Tryz.underlying101
 a37 := Tryz.isAgg101
 z37 := Tryz.sizeOf101
 v37 := Tryz.zeroValue101
 t46 := Tryz.underlying159
 a46 := Tryz.isAgg159
 z46 := Tryz.sizeOf159
 v46 := Tryz.zeroValue159
 t51 := Tryz.underlying179
 a51 := Tryz.isAgg179
 z51 := Tryz.sizeOf179
 v51 := Tryz.zeroValue179
 t53 := Tryz.underlying182
 a53 := Tryz.isAgg182
 z53 := Tryz.sizeOf182
 v53 := Tryz.zeroValue182
 t70 := Tryz.underlying125
 a70 := Tryz.isAgg125
 z70 := Tryz.sizeOf125
 v70 := Tryz.zeroValue125
 t72 := Tryz.underlying127
 a72 := Tryz.isAgg127
 z72 := Tryz.sizeOf127
 v72 := Tryz.zeroValue127
 t75 := Tryz.underlying129
 a75 := Tryz.isAgg129
 z75 := Tryz.sizeOf129
 v75 := Tryz.zeroValue129
 t76 := Tryz.underlying135
 a76 := Tryz.isAgg135
 z76 := Tryz.sizeOf135
 v76 := Tryz.zeroValue135
 t109 := Tryz.underlying160
 a109 := Tryz.isAgg160
 z109 := Tryz.sizeOf160
 v109 := Tryz.zeroValue160
 t127 := Tryz.underlying163
 a127 := Tryz.isAgg163
 z127 := Tryz.sizeOf163
 v127 := Tryz.zeroValue163
 t146 := Tryz.underlying180
 a146 := Tryz.isAgg180
 z146 := Tryz.sizeOf180
 v146 := Tryz.zeroValue180
 t148 := Tryz.underlying183
 a148 := Tryz.isAgg183
 z148 := Tryz.sizeOf183
 v148 := Tryz.zeroValue183
 t164 := Tryz.underlying176
 a164 := Tryz.isAgg176
 z164 := Tryz.sizeOf176
 v164 := Tryz.zeroValue176 }
theorem Tryz.Builder_Extra_105 : Builder.Extra Tryz.prog Tryz.lays105_ren := {
 sizeBuilder := by kernel_rfl
 liesBuilder := by kernel_rfl
 t5 := Tryz.underlying5
 a5 := Tryz.isAgg5
 z5 := Tryz.sizeOf5
 v5 := Tryz.zeroValue5
 infoByte := by kernel_rfl
 cellsByte := by kernel_rfl
 sizeByte := by kernel_rfl
 neB5 := by decide }
open Go.RowKit Go.Lib in
theorem Tryz.strings_Repeat (s : ByteArray) (c : Nat) (w : World) (hc : c ≤ 9223372036854775807) (hlen : s.size * c ≤ 140737488355328) :
  Calls Tryz.prog 131 #[.string s, .int .i64 c] w fun e w' => e = .returned (.string ⟨(Lib.repeatL s.data.toList c).toArray⟩) ∧ Below w.heap.size w w' := Any.strings_Repeat Tryz.lays105 Tryz.Builder_Extra_105 s c w hc hlen
open Go.RowKit Go.Lib in
theorem Tryz.strings_Trim_laid (s cutset : ByteArray) (w : World) (hs : s.size ≤ 9223372036854775807) (hcs : cutset.size < 4294967281) (hascii : ∀ (j : Nat) (b : UInt8), cutset.data.toList[j]? = some b → b.toNat < 128) :
  Calls Tryz.prog 160 #[.string s, .string cutset] w fun e w' => e = .returned (.string ⟨(Lib.trimS s.data.toList cutset.data.toList).toArray⟩) ∧ Below w.heap.size w w' := Any.strings_Trim_laid Tryz.lays160 (by kernel_rfl) s cutset w hs hcs hascii
end Go.Proofs
namespace Go.Proofs.YthnfajboebaajaaGreatDoor
set_option linter.unusedVariables false
open Go.RowKit Go.Shelf
def LaidW (w : World) : Prop := Lib.TabIs Tryz.prog w "internal/strconv.uint64pow10" .u64 Lib.pow10Tab
theorem LaidW.below {w W : World} (h : LaidW w) (hb : Below w.heap.size w W) : LaidW W := (Lib.tabBelow_of_tabIs h).on hb |>.here
theorem strings_IndexByte.calls (a0 : ByteArray) (a1 : Int) (r : Int) (w : World) (h : strings_IndexByte.f a0 a1 = some r) :
  Calls Tryz.prog 112 #[.string a0, .int .u8 a1] w fun e w' => e = .returned (.int .i64 r) ∧ Below w.heap.size w w' := by
 obtain rfl := Option.some.inj h
 exact (Tryz.strings_IndexByte a0 a1 w).mono fun e w' h => ⟨h.1, by rw [h.2]; exact Below.refl _ _⟩
theorem strings_Contains.calls (a0 : ByteArray) (a1 : ByteArray) (r : Bool) (w : World) (h : strings_Contains.f a0 a1 = some r) :
  Calls Tryz.prog 78 #[.string a0, .string a1] w fun e w' => e = .returned (.bool r) ∧ Below w.heap.size w w' := by
 obtain ⟨⟨l⟩⟩ := a1
 unfold strings_Contains.f at h
 simp only at h
 split at h
 ·obtain rfl := Option.some.inj h
  rename_i c
  exact (Tryz.strings_Contains_one a0 c w).mono fun e w' h => ⟨h.1, by rw [h.2]; exact Below.refl _ _⟩
 cases h
theorem strings_CutPrefix.calls (a0 : ByteArray) (a1 : ByteArray) (r1 : ByteArray) (r2 : Bool) (w : World) (h : strings_CutPrefix.f a0 a1 = some (r1, r2)) :
  Calls Tryz.prog 159 #[.string a0, .string a1] w fun e w' => e = .returned (.tuple #[.string r1, .bool r2]) ∧ Below w.heap.size w w' := by
 have h2 := Option.some.inj h
 obtain ⟨rfl, rfl⟩ := Prod.mk.inj h2
 exact (Tryz.strings_CutPrefix a0 a1 w).mono fun e w' h => ⟨h.1, by rw [h.2]; exact Below.refl _ _⟩
theorem strings_Trim.calls (a0 : ByteArray) (a1 : ByteArray) (r : ByteArray) (w : World) (h : strings_Trim.f a0 a1 = some r) :
  Calls Tryz.prog 160 #[.string a0, .string a1] w fun e w' => e = .returned (.string r) ∧ Below w.heap.size w w' := by
 unfold strings_Trim.f at h
 split at h
 ·rename_i hc
  obtain rfl := Option.some.inj h
  refine Tryz.strings_Trim_laid a0 a1 w hc.1 hc.2.1 fun j b hj => ?_
  have := List.all_eq_true.1 hc.2.2 b (List.mem_of_getElem? hj)
  simpa using this
 cases h
theorem decDigits_txtN : ∀ n : Nat, Lib.decDigits n = Sv.txtN n := by
 intro n
 induction n using Nat.strongRecOn with
 | ind n ih =>
  rw [Lib.decDigits]
  by_cases h : n < 10
  ·rw [dif_pos h]
   unfold Sv.txtN
   by_cases h0 : n = 0
   ·subst h0; rfl
   rw [if_neg h0, Sv.dg_pos (by decide) (by omega), Nat.mod_eq_of_lt h, Nat.div_eq_of_lt h, Sv.dg_zero]
   simp [Sv.dch]
  rw [dif_neg h, ih (n / 10) (by omega)]
  have h0 : n ≠ 0 := by omega
  have h1 : n / 10 ≠ 0 := by omega
  unfold Sv.txtN
  rw [if_neg h0, if_neg h1, Sv.dg_pos (b := 10) (n := n) (by decide) (by omega)]
  simp [Sv.dch]
  congr 1
theorem itoa_txtL (n : Int) : Lib.itoa n = Sv.txtL n := by
 unfold Lib.itoa Sv.txtL
 split
 ·rw [decDigits_txtN]
 rename_i h
 rw [decDigits_txtN]
 congr 1
 omega
theorem strconv_Itoa.calls (a0 : Int) (r : ByteArray) (w : World) (hL : LaidW w) (h : strconv_Itoa.f a0 = some r) :
  Calls Tryz.prog 129 #[.int .i64 a0] w fun e w' => e = .returned (.string r) ∧ Below w.heap.size w w' := by
 unfold strconv_Itoa.f at h
 split at h
 ·rename_i hc
  obtain rfl := Option.some.inj h
  refine (Tryz.strconv_Itoa a0 hc.1 hc.2 w hL).mono fun e w' h => ⟨?_, ?_⟩
  ·rw [h.1, itoa_txtL]; rfl
  obtain ⟨k, os, rfl⟩ := h.2
  exact Lib.below_grow _ _ (Nat.le_refl _) _ _
 cases h
end Go.Proofs.YthnfajboebaajaaGreatDoor
namespace Go.Proofs.YthnfajboebaajaaGreatDoor.PA
set_option linter.unusedVariables false
open Go.RowKit Go.Proofs.WWords Go.Proofs.WLast Go.Proofs.WMore
attribute [local go_sem] max2_int min2_int max_two min_two max_three min_three max_four min_four
set_option linter.unusedSimpArgs false
def errW : Option Int → Value
  | none => .nilIface
  | some c => .iface 0 (.int .i64 c)
theorem errW_none : errW none = .nilIface := rfl
theorem errW_some (c : Int) : errW (some c) = .iface 0 (.int .i64 c) := rfl
theorem info3 : (Tryz.prog.info? 3).map (fun i => (i.zero, i.size, i.bytes)) = some (some (.int .i64 0), 1, 8) := by kernel_rfl
theorem info5 : (Tryz.prog.info? 5).map (fun i => (i.zero, i.size, i.bytes)) = some (some (.int .u8 0), 1, 1) := by kernel_rfl
theorem rENegative.calls (a0 : ByteArray) (r : Bool) (w : World) (h : rENegative.f a0 = some r) :
  Calls Tryz.prog 126 #[.string a0] w fun e w' => e = .returned (.bool r) ∧ Drawn0 w w' := by
 have H := h
 clear h
 unfold rENegative.f at H
 obtain ⟨c2, c2b0, H⟩ := gd H
 have c2b1 : decide (0 < a0.size) = true := decide_eq_true (by omega)
 clear c2
 obtain rfl := Option.some.inj H
 have p3 : 0 ≤ (0 : Int) := (by omega)
 have q3 : 0 < a0.size := (by have : (0 : Int) < (a0.size : Int) := od; omega)
 have hx3 : ∀ h : 0 < a0.size, ((a0[0]'h).toNat : Int) = bt a0 0 := bt_at a0 0
 clear p3
 have qi3 : (0 < (a0.size : Int)) = True := eq_true od
 replace q3 := eq_true q3
 go_enter Tryz.func126, Tryz.ntmps126
 go_wp2
 go_ret
 exact finD
theorem rEDigits.calls (a0 : ByteArray) (r : Int) (w : World) (h : rEDigits.f a0 = some r) :
  Calls Tryz.prog 93 #[.string a0] w fun e w' => e = .returned (.int .i64 r) ∧ Drawn0 w w' := by
 have H := h
 clear h
 unfold rEDigits.f at H
 obtain ⟨t438, A2, H⟩ := bnd H
 by_cases c3 : t438 = true
 ·subst c3
  have H1 : (some (wrap64 ((a0.size : Int) - 1))) = some r := by rw [if_pos rfl] at H; exact H
  clear H
  have H := H1
  clear H1
  obtain rfl := Option.some.inj H
  go_enter Tryz.func93, Tryz.ntmps93
  go_wp2_with (first | ((with_reducible refine gc_ 126 rfl ?_); refine goD (some 4) Tryz.func126 #[.string a0] (rENegative.calls a0 true _ A2.out) ?_; intro nd))
  go_ret
  exact finD
 replace c3 := Bool.eq_false_iff.mpr c3
 subst c3
 have H1 : (some (a0.size : Int)) = some r := by rw [if_neg (show ¬ (false = true) by decide)] at H; exact H
 clear H
 have H := H1
 clear H1
 obtain rfl := Option.some.inj H
 go_enter Tryz.func93, Tryz.ntmps93
 go_wp2_with (first | ((with_reducible refine gc_ 126 rfl ?_); refine goD (some 4) Tryz.func126 #[.string a0] (rENegative.calls a0 false _ A2.out) ?_; intro nd))
 go_ret
 exact finD
theorem rEForm.calls (k : Nat) (a0 : ByteArray) (r : Bool) (w : World) (h : rEForm.f k a0 = some r) :
  Calls Tryz.prog 92 #[.string a0] w fun e w' => e = .returned (.bool r) ∧ Drawn0 w w' := by
 have H := h
 clear h
 unfold rEForm.f at H
 rcases je H with ⟨-, c2b0, c2b1, H⟩ | ⟨c2, c2b0, c2b1, H⟩
 ·obtain rfl := Option.some.inj H
  go_enter Tryz.func92, Tryz.ntmps92
  go_wp2
  go_ret
  exact finD
 have HC3 := Z0.mk H
 clear H
 go_enter Tryz.func92, Tryz.ntmps92
 go_upto_region 4 with (fail)
 go_cut [14] (fun v14 wc => ∃ (kq : Nat) (x14_2 : Bool), v14 = .bool x14_2 ∧ Z0 (rEForm.j0 kq a0 0 x14_2 = some r) ∧ Z0 (kq ≤ k) ∧ Drawn0 w wc)
 case first =>
  have H := HC3.out
  clear HC3
  rcases jg H with ⟨c4, c4b0, H⟩ | ⟨c4, c4b0, H⟩
  ·have c4b1 : decide (0 < a0.size) = true := decide_eq_true (by omega)
   clear c4
   (first | rw [c4b0] | (simp only [i64_w, i32_w]; rw [c4b0]) | skip)
   obtain ⟨c5, c5b0, H⟩ := gd H
   have c5b1 : decide (0 < a0.size) = true := decide_eq_true (by omega)
   clear c5
   have H' := Z0.mk H
   clear H
   have p6 : 0 ≤ (0 : Int) := (by omega)
   have q6 : 0 < a0.size := (by have : (0 : Int) < (a0.size : Int) := od; omega)
   have hx6 : ∀ h : 0 < a0.size, ((a0[0]'h).toNat : Int) = bt a0 0 := bt_at a0 0
   clear p6
   have qi6 : (0 < (a0.size : Int)) = True := eq_true od
   replace q6 := eq_true q6
   go_wp2
   go_meet
   case rel => exact ⟨_, (((bt a0 0) == 45)), fs, H', ⟨by first | omega | exact Nat.le_refl _⟩, by repeat (first | exact Drawn0.refl _ | apply Drawn0.step)⟩
  have c4b1 : decide (0 < a0.size) = false := decide_eq_false (by omega)
  clear c4
  (first | rw [c4b0] | (simp only [i64_w, i32_w]; rw [c4b0]) | skip)
  have H' := Z0.mk H
  clear H
  go_wp2
  go_meet
  case rel => exact ⟨_, (false), fs, H', ⟨by first | omega | exact Nat.le_refl _⟩, by repeat (first | exact Drawn0.refl _ | apply Drawn0.step)⟩
 case rest =>
  clear HC3
  try clear c2
  try clear c2b0
  try clear c2b1
  try clear p2
  try clear c4
  try clear c4b0
  try clear c4b1
  try clear c5
  try clear c5b0
  try clear c5b1
  try clear p6
  try clear q6
  try clear hx6
  try clear qi6
  try clear p6
  try clear q6
  obtain ⟨kq, x14_2, rfl, HA, HJ2, ⟨mc2, rfl⟩⟩ := hcut
  cases kq with
  | zero => exact absurd HA.out (by simp [rEForm.j0])
  | succ kj2 =>
   have H := HA.out
   clear HA
   simp only [rEForm.j0] at H
   have HC7 := Z0.mk H
   clear H
   go_upto_if 14 with (fail)
   go_cut [3] (fun v3 wc => ∃ (kq : Nat) (x3_6 : Int), v3 = .int .i64 x3_6 ∧ Z0 (rEForm.j1 kq a0 x3_6 = some r) ∧ Z0 (kq ≤ kj2) ∧ Drawn0 w wc)
   case first =>
    have H := HC7.out
    clear HC7
    by_cases c8 : x14_2 = true
    ·subst c8
     have H1 : (rEForm.j1 kj2 a0 1) = some r := by rw [if_pos rfl] at H; exact H
     clear H
     have H := H1
     clear H1
     have H' := Z0.mk H
     clear H
     go_wp2
     go_meet
     case rel => exact ⟨_, (1), fs, H', ⟨by have := HJ2.out; first | omega | exact Nat.le_refl _⟩, by repeat (first | exact Drawn0.refl _ | apply Drawn0.step)⟩
    replace c8 := Bool.eq_false_iff.mpr c8
    subst c8
    have H1 : (rEForm.j1 kj2 a0 0) = some r := by rw [if_neg (show ¬ (false = true) by decide)] at H; exact H
    clear H
    have H := H1
    clear H1
    have H' := Z0.mk H
    clear H
    go_wp2
    go_meet
    case rel => exact ⟨_, (0), fs, H', ⟨by have := HJ2.out; first | omega | exact Nat.le_refl _⟩, by repeat (first | exact Drawn0.refl _ | apply Drawn0.step)⟩
   case rest =>
    clear HC7
    try clear c2
    try clear c2b0
    try clear c2b1
    try clear p2
    try clear c4
    try clear c4b0
    try clear c4b1
    try clear c5
    try clear c5b0
    try clear c5b1
    try clear p6
    try clear q6
    try clear hx6
    try clear qi6
    try clear c8
    try clear p2
    try clear p6
    try clear q6
    obtain ⟨kq, x3_6, rfl, HA, HJ6, ⟨mc6, rfl⟩⟩ := hcut
    cases kq with
    | zero => exact absurd HA.out (by simp [rEForm.j1])
    | succ kj6 =>
     have H := HA.out
     clear HA
     simp only [rEForm.j1] at H
     have HC9 := Z0.mk H
     clear H
     go_upto_region 6 with (fail)
     go_cut [24] (fun v24 wc => ∃ (kq : Nat) (x24_8 : Bool), v24 = .bool x24_8 ∧ Z0 (rEForm.j2 kq a0 x3_6 x24_8 = some r) ∧ Z0 (kq ≤ kj6) ∧ Drawn0 w wc)
     case first =>
      have H := HC9.out
      clear HC9
      rcases je H with ⟨-, c10b0, c10b1, H⟩ | ⟨c10, c10b0, c10b1, H⟩
      ·(first | rw [c10b0] | (simp only [i64_w, i32_w]; rw [c10b0]) | skip)
       have H' := Z0.mk H
       clear H
       go_wp2
       go_meet
       case rel => exact ⟨_, (true), fs, H', ⟨by have := HJ2.out; have := HJ6.out; first | omega | exact Nat.le_refl _⟩, by repeat (first | exact Drawn0.refl _ | apply Drawn0.step)⟩
      (first | rw [c10b0] | (simp only [i64_w, i32_w]; rw [c10b0]) | skip)
      obtain ⟨-, c11b0, H⟩ := gd H
      obtain ⟨-, c12b0, H⟩ := gd H
      have H' := Z0.mk H
      clear H
      obtain ⟨hx13, p13, q13⟩ := btA a0 x3_6
      go_wp2
      go_meet
      case rel => exact ⟨_, (((bt a0 x3_6) == 48)), fs, H', ⟨by have := HJ2.out; have := HJ6.out; first | omega | exact Nat.le_refl _⟩, by repeat (first | exact Drawn0.refl _ | apply Drawn0.step)⟩
     case rest =>
      clear HC9
      try clear c1
      try clear p1
      try clear q1
      try clear hx1
      try clear c2
      try clear c2b0
      try clear c2b1
      try clear p2
      try clear c4
      try clear c4b0
      try clear c4b1
      try clear c5
      try clear c5b0
      try clear c5b1
      try clear c6
      try clear p6
      try clear q6
      try clear hx6
      try clear qi6
      try clear c8
      try clear c9
      try clear c10
      try clear c10b0
      try clear c10b1
      try clear c11
      try clear c11b0
      try clear c12
      try clear c12b0
      try clear p13
      try clear q13
      try clear hx13
      try clear p13
      try clear p2
      try clear p6
      try clear q13
      try clear q6
      obtain ⟨kq, x24_8, rfl, HA, HJ8, ⟨mc8, rfl⟩⟩ := hcut
      cases kq with
      | zero => exact absurd HA.out (by simp [rEForm.j2])
      | succ kj8 =>
       have H := HA.out
       clear HA
       simp only [rEForm.j2] at H
       by_cases c14 : x24_8 = true
       ·subst c14
        have H1 : (some false) = some r := by rw [if_pos rfl] at H; exact H
        clear H
        have H := H1
        clear H1
        obtain rfl := Option.some.inj H
        go_wp2
        go_ret
        exact finD
       replace c14 := Bool.eq_false_iff.mpr c14
       subst c14
       have H1 : (rEForm.l0 kj8 a0 x3_6) = some r := by rw [if_neg (show ¬ (false = true) by decide)] at H; exact H
       clear H
       have H := H1
       clear H1
       have H' := Z0.mk H
       clear H
       go_wp2
       go_loopg [4] kj8 (fun kq v4 w' => ∃ (x4_4 : Int), v4 = .int .i64 x4_4 ∧ Z0 (rEForm.l0 kq a0 x4_4 = some r) ∧ Z0 (kq ≤ kj8) ∧ Drawn0 w w')
       case atStart => exact ⟨(x3_6), fs, H', ⟨Nat.le_refl _⟩, by repeat (first | exact Drawn0.refl _ | apply Drawn0.step)⟩
       case round =>
        clear H'
        try clear c1
        try clear p1
        try clear q1
        try clear hx1
        try clear c2
        try clear c2b0
        try clear c2b1
        try clear p2
        try clear c4
        try clear c4b0
        try clear c4b1
        try clear c5
        try clear c5b0
        try clear c5b1
        try clear c6
        try clear p6
        try clear q6
        try clear hx6
        try clear qi6
        try clear c8
        try clear c9
        try clear c10
        try clear c10b0
        try clear c10b1
        try clear c11
        try clear c11b0
        try clear c12
        try clear c12b0
        try clear p13
        try clear q13
        try clear hx13
        try clear c14
        try clear p1
        try clear p13
        try clear p2
        try clear p6
        try clear q1
        try clear q13
        try clear q6
        obtain ⟨x4_4, rfl, HA, HK4, ⟨m4, rfl⟩⟩ := hrel
        cases gk with
        | zero => exact absurd HA.out (by simp [rEForm.l0])
        | succ k4 =>
         have H := HA.out
         clear HA
         simp only [rEForm.l0] at H
         rcases jd H with ⟨-, c15b0, H⟩ | ⟨-, c15b0, H⟩
         ·obtain ⟨-, c16b0, H⟩ := gd H
          rcases jd H with ⟨-, c18b0, H⟩ | ⟨-, c18b0, H⟩
          ·obtain rfl := Option.some.inj H
           obtain ⟨hx17, p17, q17⟩ := btA a0 x4_4
           go_wp2
           go_ret
           exact finD
          rcases jg H with ⟨-, c20b0, H⟩ | ⟨-, c20b0, H⟩
          ·obtain rfl := Option.some.inj H
           obtain ⟨hx17, p17, q17⟩ := btA a0 x4_4
           obtain ⟨hx19, p19, q19⟩ := btA a0 x4_4
           go_wp2
           go_ret
           exact finD
          have H' := Z0.mk H
          clear H
          obtain ⟨hx17, p17, q17⟩ := btA a0 x4_4
          obtain ⟨hx19, p19, q19⟩ := btA a0 x4_4
          go_wp2
          go_roundg k4
          case measure => have := HJ2.out; have := HJ6.out; have := HJ8.out; have := HK4.out; omega
          case rel => exact ⟨(wrap64 (x4_4 + 1)), fs, H', ⟨by have := HJ2.out; have := HJ6.out; have := HJ8.out; have := HK4.out; omega⟩, by repeat (first | exact Drawn0.refl _ | apply Drawn0.step)⟩
         obtain rfl := Option.some.inj H
         go_wp2
         go_ret
         exact finD
theorem rECheck.calls (k : Nat) (a0 : ByteArray) (r : Int) (w : World) (h : rECheck.f k a0 = some r) :
  Calls Tryz.prog 36 #[.string a0] w fun e w' => e = .returned (.int .i64 r) ∧ Drawn0 w w' := by
 have H := h
 clear h
 unfold rECheck.f at H
 obtain ⟨t439, A2, H⟩ := bnd H
 by_cases c3 : t439 = true
 ·subst c3
  have H1 : ((rEDigits.f a0).bind fun t440 => (if t440 > 4096 then (some 10) else (some 0))) = some r := by rw [if_pos rfl] at H; exact H
  clear H
  have H := H1
  clear H1
  obtain ⟨t440, A4, H⟩ := bnd H
  rcases jg H with ⟨-, c5b0, H⟩ | ⟨-, c5b0, H⟩
  ·obtain rfl := Option.some.inj H
   go_enter Tryz.func36, Tryz.ntmps36
   go_wp2_with (first | ((with_reducible refine gc_ 92 rfl ?_); refine goD (some 4) Tryz.func92 #[.string a0] (rEForm.calls k a0 true _ A2.out) ?_; intro nd) | ((with_reducible refine gc_ 93 rfl ?_); refine goD (some 7) Tryz.func93 #[.string a0] (rEDigits.calls a0 t440 _ A4.out) ?_; intro nd))
   go_ret
   exact finD
  obtain rfl := Option.some.inj H
  go_enter Tryz.func36, Tryz.ntmps36
  go_wp2_with (first | ((with_reducible refine gc_ 92 rfl ?_); refine goD (some 4) Tryz.func92 #[.string a0] (rEForm.calls k a0 true _ A2.out) ?_; intro nd) | ((with_reducible refine gc_ 93 rfl ?_); refine goD (some 7) Tryz.func93 #[.string a0] (rEDigits.calls a0 t440 _ A4.out) ?_; intro nd))
  go_ret
  exact finD
 replace c3 := Bool.eq_false_iff.mpr c3
 subst c3
 have H1 : (some 3) = some r := by rw [if_neg (show ¬ (false = true) by decide)] at H; exact H
 clear H
 have H := H1
 clear H1
 obtain rfl := Option.some.inj H
 go_enter Tryz.func36, Tryz.ntmps36
 go_wp2_with (first | ((with_reducible refine gc_ 92 rfl ?_); refine goD (some 4) Tryz.func92 #[.string a0] (rEForm.calls k a0 false _ A2.out) ?_; intro nd))
 go_ret
 exact finD
end Go.Proofs.YthnfajboebaajaaGreatDoor.PA
namespace Go.Proofs.YthnfajboebaajaaGreatDoor
set_option linter.unusedVariables false
open Go.RowKit Go.Proofs.WWords Go.Proofs.WLast Go.Proofs.WMore PA
set_option linter.unusedSimpArgs false
theorem added_calls (f : FuncId) (w : World) : Calls Tryz.prog 173 #[.func (.func f) #[] #[]] w fun e w' => ∃ g, e = .returned (.func (.func 200) #[] #[.pointer (some ⟨g, 0, none⟩)]) ∧ w'.heap[g]? = some (.cells #[.func (.func f) #[] #[]] 41 (0, 0)) ∧ w.heap.size ≤ g ∧ Below w.heap.size w w' := by
 go_enter Tryz.func173, Tryz.ntmps173
 go_wp2
 go_ret
 exact ⟨w.heap.size, rfl, World.alloc_heap_new w _, Nat.le_refl _, (Below.refl _ w).alloc (Nat.le_refl _) _⟩
theorem check_u8 (e : Bool) (n : Nat) (k : Int) (w : World) : (Instr.checkKey e (n + 1) 5 (.int .u8 k)).run Tryz.prog w = .ok () w := by
 have h2 := run_underlying (P := Tryz.prog) Tryz.underlying5
 unfold Instr.checkKey
 simp [h2]
theorem check_u8' (e : Bool) (k : Int) (w : World) : (Instr.checkKey e 10000 5 (.int .u8 k)).run Tryz.prog w = .ok () w := check_u8 e 9999 k w
theorem run_put (m : Nat) (es : Array MapEntry) (clock : Nat) (k : Int) (v : Value) (w : World) (hb : w.heap[m]? = some (.map es clock)) (hn : Instr.findNow (.int .u8) (.int .u8 k) es.toList 0 = some none) :
    (Instr.mapUpdate 141 (.map (some m)) (.int .u8 k) v).run Tryz.prog w = .ok () (w.putObj m (.map (es.push { key := .int .u8 k, val := v, born := clock }) (clock + 1))) := by
 have h1 := run_underlying (P := Tryz.prog) Tryz.underlying141
 have h2 := run_underlying (P := Tryz.prog) Tryz.underlying5
 unfold Instr.mapUpdate
 simp [h1, h2, check_u8', Instr.findKey, hn, Go.MapKept.run_getObj_map hb, Go.MapKept.run_setObj_map _ hb, World.putObj]
theorem run_look (m : Nat) (es : Array MapEntry) (clock : Nat) (k : Int) (i : Nat) (v : Value) (w : World) (hb : w.heap[m]? = some (.map es clock)) (hn : Instr.findNow (.int .u8) (.int .u8 k) es.toList 0 = some (some (i, v))) :
    (Instr.lookup 141 (.map (some m)) (.int .u8 k) false).run Tryz.prog w = .ok v w := by
 have h1 := run_underlying (P := Tryz.prog) Tryz.underlying141
 have h2 := run_underlying (P := Tryz.prog) Tryz.underlying5
 unfold Instr.lookup
 simp [h1, h2, check_u8', Instr.findKey, hn, Go.MapKept.run_getObj_map hb]
section
variable {P : Program} {ops : Array Oper} {Q : Exit → Act → World → Prop} {rest : List Oper} {o : Oper} {a : Act} {W w1 : World}
theorem gate_ins {k : Int} {v : Operand} (_h : o.op = .insert 141 (.tmp 1) (.const (.int .u8 k)) v) (h : wpList P ops Q (o :: rest) a W) : wpList P ops Q (o :: rest) a W := h
theorem ins_event (m : Nat) (es : Array MapEntry) (clock : Nat) (k : Int) (x : Operand) (v : Value) (hgd : o.guard = none) (hN : o.dst = none) (hop : o.op = .insert 141 (.tmp 1) (.const (.int .u8 k)) x) (hm : a.eval (.tmp 1) = .map (some m)) (hv : a.eval x = v)
    (hb : W.heap[m]? = some (.map es clock)) (hn : Instr.findNow (.int .u8) (.int .u8 k) es.toList 0 = some none)
    (h : ∀ w', w'.heap[m]? = some (.map (es.push { key := .int .u8 k, val := v, born := clock }) (clock + 1)) → W.grownBy w' (some m) → wpList Tryz.prog ops Q rest a w') : wpList Tryz.prog ops Q (o :: rest) a W := by
 refine wpList_plain hgd fun K hK => ?_
 have hr := run_put m es clock k v W hb hn
 unfold Oper.wp
 have he : (execOp a.eval o).run Tryz.prog W = .ok .skip (W.putObj m (.map (es.push { key := .int .u8 k, val := v, born := clock }) (clock + 1))) := by
  have hk : a.eval (.const (.int .u8 k)) = .int .u8 k := rfl
  unfold execOp
  simp [hop, hm, hv, hk, hr]
 rw [he]
 show K (a.put o.dst undef) _
 rw [hN]
 exact hK _ _ (h _ (World.putObj_heap_same (Array.getElem?_eq_some_iff.1 hb).1) (grownBy_putObj' W m _))
end
def ropsE (g1 g2 : Nat) : Array MapEntry := #[⟨.int .u8 43, .func (.func 200) #[] #[.pointer (some ⟨g1, 0, none⟩)], 0⟩, ⟨.int .u8 45, .func (.func 200) #[] #[.pointer (some ⟨g2, 0, none⟩)], 1⟩, ⟨.int .u8 42, .func (.func 174) #[] #[], 2⟩, ⟨.int .u8 47, .func (.func 175) #[] #[], 3⟩]
theorem rops_calls (w : World) : Calls Tryz.prog 133 #[] w fun e w' => ∃ m g1 g2, e = .returned (.map (some m)) ∧ w'.heap[m]? = some (.map (ropsE g1 g2) 4) ∧ w'.heap[g1]? = some (.cells #[.func (.func 103) #[] #[]] 41 (0, 0)) ∧ w'.heap[g2]? = some (.cells #[.func (.func 33) #[] #[]] 41 (0, 0)) ∧ Below w.heap.size w w' := by
 go_enter Tryz.func133, Tryz.ntmps133
 go_wp2_with (first
   | ((with_reducible refine gd_ 1 rfl ?_); refine Kd.event_run rfl (v := .map (some w.heap.size)) (w1 := w.alloc (.map #[] 0)) (by rfl) ?_
      obtain ⟨m, hm⟩ : ∃ m, w.heap.size = m := ⟨_, rfl⟩
      obtain ⟨W0, hW0⟩ : ∃ W0, w.alloc (.map #[] 0) = W0 := ⟨_, rfl⟩
      have hb0 : Below w.heap.size w W0 := by rw [← hW0]; exact (Below.refl _ w).alloc (Nat.le_refl _) _
      have hm0 : W0.heap[m]? = some (.map #[] 0) := by rw [← hW0, ← hm]; exact World.alloc_heap_new w _
      have hml := (Array.getElem?_eq_some_iff.1 hm0).1
      rw [hW0, hm]; clear hW0)
   | ((with_reducible refine gd_ 2 rfl ?_); refine goesL_ (some 2) rfl rfl Tryz.func173 (by kernel_rfl) rfl #[.func (.func 103) #[] #[]] rfl (by (try simp only [List.map_toArray, List.map_cons, List.map_nil]); first | done | rfl) ?_; refine (added_calls 103 _).mono ?_; rintro e w1 ⟨g1, rfl, hg1, hl1, hb1⟩; refine ⟨_, rfl, ?_⟩
      have hm1 : w1.heap[m]? = some (.map #[] 0) := (hb1.block m hml).trans hm0
      have hB1 := hb0.trans (hb1.mono hb0.size))
   | ((with_reducible refine gate_ins (k := 43) rfl ?_); refine ins_event m #[] 0 43 _ _ rfl rfl rfl rfl rfl hm1 rfl ?_; intro w2 hm2 hw2
      have hg12 : w2.heap[g1]? = some (.cells #[.func (.func 103) #[] #[]] 41 (0, 0)) := (hw2.block g1 (Array.getElem?_eq_some_iff.1 hg1).1 (fun e => by cases e; omega)).trans hg1
      have hB2 := hB1.grown hw2 hB1.size (fun k e => by cases e; omega)
      have hml2 := (Array.getElem?_eq_some_iff.1 hm2).1)
   | ((with_reducible refine gd_ 3 rfl ?_); refine goesL_ (some 3) rfl rfl Tryz.func173 (by kernel_rfl) rfl #[.func (.func 33) #[] #[]] rfl (by (try simp only [List.map_toArray, List.map_cons, List.map_nil]); first | done | rfl) ?_; refine (added_calls 33 _).mono ?_; rintro e w3 ⟨g2, rfl, hg2, hl2, hb3⟩; refine ⟨_, rfl, ?_⟩
      have hm3 := (hb3.block m hml2).trans hm2
      have hg13 := (hb3.block g1 (Array.getElem?_eq_some_iff.1 hg12).1).trans hg12
      have hB3 := hB2.trans (hb3.mono hB2.size))
   | ((with_reducible refine gate_ins (k := 45) rfl ?_); refine ins_event m _ 1 45 _ _ rfl rfl rfl rfl rfl hm3 rfl ?_; intro w4 hm4 hw4
      have hg14 := (hw4.block g1 (Array.getElem?_eq_some_iff.1 hg13).1 (fun e => by cases e; omega)).trans hg13
      have hg24 := (hw4.block g2 (Array.getElem?_eq_some_iff.1 hg2).1 (fun e => by cases e; omega)).trans hg2
      have hB4 := hB3.grown hw4 hB3.size (fun k e => by cases e; omega))
   | ((with_reducible refine gate_ins (k := 42) rfl ?_); refine ins_event m _ 2 42 _ _ rfl rfl rfl rfl rfl hm4 rfl ?_; intro w5 hm5 hw5
      have hg15 := (hw5.block g1 (Array.getElem?_eq_some_iff.1 hg14).1 (fun e => by cases e; omega)).trans hg14
      have hg25 := (hw5.block g2 (Array.getElem?_eq_some_iff.1 hg24).1 (fun e => by cases e; omega)).trans hg24
      have hB5 := hB4.grown hw5 hB4.size (fun k e => by cases e; omega))
   | ((with_reducible refine gate_ins (k := 47) rfl ?_); refine ins_event m _ 3 47 _ _ rfl rfl rfl rfl rfl hm5 rfl ?_; intro w6 hm6 hw6
      have hg16 := (hw6.block g1 (Array.getElem?_eq_some_iff.1 hg15).1 (fun e => by cases e; omega)).trans hg15
      have hg26 := (hw6.block g2 (Array.getElem?_eq_some_iff.1 hg25).1 (fun e => by cases e; omega)).trans hg25
      have hB6 := hB5.grown hw6 hB5.size (fun k e => by cases e; omega)))
 go_ret
 exact ⟨m, rfl, g1, g2, hm6, hg16, hg26, by rw [← hm]; exact hB6⟩
end Go.Proofs.YthnfajboebaajaaGreatDoor
namespace Go.Proofs.YthnfajboebaajaaGreatDoor.PA
set_option linter.unusedVariables false
open Go.RowKit Go.Proofs.WWords Go.Proofs.WLast Go.Proofs.WMore
attribute [local go_sem] max2_int min2_int max_two min_two max_three min_three max_four min_four
set_option linter.unusedSimpArgs false
theorem bInumber_size.calls (a0_0 : Bool) (A0_1 : Option Addr) (c0_1 : Nat) (l0_1 : List Int) (r : Int) (w : World) (hL : LaidW w) (hr0_1 : Kd.C (Kd.int .i64) w A0_1 l0_1.length l0_1) (hc0_1 : l0_1.length ≤ c0_1) (h : bInumber_size.f a0_0 l0_1 = some r) :
  Calls Tryz.prog 124 #[.agg #[.bool a0_0, .slice A0_1 l0_1.length c0_1]] w fun e w' => e = .returned (.int .i64 r) ∧ Below w.heap.size w w' := by
 have hu88 := Tryz.underlying88
 have HR0_1 := Z0.mk hr0_1
 have HC0_1 := Z0.mk hc0_1
 clear hr0_1 hc0_1
 have HB := Z0.mk (Below.refl w.heap.size w)
 have H := h
 clear h
 unfold bInumber_size.f at H
 rcases je H with ⟨-, c2b0, c2b1, H⟩ | ⟨c2, c2b0, c2b1, H⟩
 ·obtain rfl := Option.some.inj H
  go_enter Tryz.func124, Tryz.ntmps124
  go_wp2_with (first | ((with_reducible refine gd_ 1 rfl ?_); refine bxE 1 #[.bool a0_0, .slice A0_1 l0_1.length c0_1] 88 ?_; intro gb292 hg w3 hbox hb; have BK292 := Z0.mk hbox; have GW292 := fE HB hg; have GE292 := fE HB hg; replace HB := fB HB hb; clear hb hbox hg; obtain ⟨hcz4_0, hcz4_1, hfz4_0, hfz4_1⟩ := b2 BK292))
  go_ret
  exact finE
 have c2b2 : ¬ (l0_1 = []) := fun h_ => c2 (by rw [h_]; rfl)
 obtain ⟨ji5, hji5⟩ : ∃ j_ : Int, (wrap64 ((l0_1.length : Int) - 1)) = j_ := ⟨_, rfl⟩
 replace H : (if 0 ≤ (ji5) then (if (ji5) < (l0_1.length : Int) then ((strconv_Itoa.f (rd l0_1 (ji5))).bind fun t294 => (some (wrap64 ((wrap64 ((ji5) * 9)) + (t294.size : Int))))) else (none)) else (none)) = some r := by first | (rw [hji5] at H; exact H) | (simp only [hji5] at H ⊢; exact H)
 have hji5w : (IntKind.i64.wrap ((l0_1.length : Int) - 1)) = ji5 := (i64_w _).trans hji5
 obtain ⟨-, c6b0, H⟩ := gd H
 obtain ⟨-, c7b0, H⟩ := gd H
 obtain ⟨t294, A8, H⟩ := bnd H
 obtain rfl := Option.some.inj H
 go_enter Tryz.func124, Tryz.ntmps124
 go_wp2_with (first | ((with_reducible refine gd_ 1 rfl ?_); refine bxE 1 #[.bool a0_0, .slice A0_1 l0_1.length c0_1] 88 ?_; intro gb292 hg w9 hbox hb; have BK292 := Z0.mk hbox; have GW292 := fE HB hg; have GE292 := fE HB hg; replace HB := fB HB hb; clear hb hbox hg; obtain ⟨hcz10_0, hcz10_1, hfz10_0, hfz10_1⟩ := b2 BK292; have p293 : 0 ≤ ((ji5) : Int) := od; have q293 : (ji5) < (l0_1.length : Int) := od; obtain ⟨ad293, e293, hx293_0⟩ := Kd.at_int HR0_1.out (ji5) p293 q293; cases e293; replace hx293_0 := (HB.out.cell (World.block_lt_of_cell? w _ hx293_0)).trans hx293_0; replace p293 := eq_true p293; replace q293 := eq_true q293) | ((with_reducible refine gc_ 129 rfl ?_); refine goesL_ (some 19) rfl rfl Tryz.func129 (by kernel_rfl) rfl #[.int .i64 (rd l0_1 (ji5))] rfl (by (try simp only [List.map_toArray, List.map_cons, List.map_nil]); first | done | (simp only [hji5]; rfl) | rfl | (simp only [List.length_drop, List.length_take]; rfl)) ?_; (with_reducible refine (strconv_Itoa.calls (rd l0_1 (ji5)) t294 _ ?side1 A8.out).mono ?_); (case side1 => exact LaidW.below hL bqs); rintro e w11 ⟨rfl, hb⟩; refine ⟨_, rfl, ?_⟩; replace BK292 := fk BK292 hb; replace HB := fB HB hb; clear hb))
 go_ret
 exact ⟨by first | rfl | (simp [errW_none, errW_some] <;> rfl) | (simp only [← hji5]; first | rfl | (simp [errW_none, errW_some] <;> rfl)) | (simp [*, errW_none, errW_some] <;> rfl), bqs⟩
end Go.Proofs.YthnfajboebaajaaGreatDoor.PA
namespace Go.Proofs.YthnfajboebaajaaGreatDoor
set_option linter.unusedVariables false
open Go.RowKit Go.Shelf Go.Proofs.WWords
attribute [local go_sem] Oper.semAt_some
theorem bk_succ (zs : List Int) (k : Nat) (h : k < zs.length) : bk zs (k + 1) = bk zs k ++ [bkx zs k h] := by simp [bk, h]
theorem bk_length (zs : List Int) (k : Nat) (h : k ≤ zs.length) : (bk zs k).length = k := by
 induction k with
 | zero => rfl
 | succ k ih => rw [bk_succ zs k (by omega)]; simp [ih (by omega)]
theorem bk_mem {zs : List Int} {k : Nat} (h : k ≤ zs.length) (x : BkT zs) : x ∈ bk zs k ↔ (zs.length : Int) - k ≤ x.1.1 := by
 induction k with
 | zero => simp [bk]; have := x.2; omega
 | succ k ih =>
  rw [bk_succ zs k (by omega), List.mem_append, ih (by omega), List.mem_singleton]
  constructor
  ·rintro (h | h)
   ·omega
   rw [h]; simp only [bkx]; omega
  intro h
  by_cases e : (zs.length : Int) - k ≤ x.1.1
  ·exact .inl e
  right
  have h2 := x.2
  have h3 : x.1.1 = (zs.length : Int) - 1 - k := by omega
  apply Subtype.ext
  apply Prod.ext
  ·exact h3
  rw [h2.2.2, h3]; rfl
def enc2 {zs : List Int} (x : BkT zs) : Array Value := #[.int .i64 x.1.1, .int .i64 x.1.2]
def KB (n₀ Bs : Nat) (W W' : World) : Prop := Below n₀ W W' ∧ (Bs < W.heap.size → W'.heap[Bs]? = W.heap[Bs]?)
theorem KB.refl (n₀ Bs : Nat) (W : World) : KB n₀ Bs W W := ⟨Below.refl _ _, fun _ => rfl⟩
theorem KB.trans {n₀ Bs : Nat} {A B C : World} (h : KB n₀ Bs A B) (k : KB n₀ Bs B C) : KB n₀ Bs A C :=
 ⟨h.1.trans k.1, fun hb => (k.2 (Nat.lt_of_lt_of_le hb h.1.size)).trans (h.2 hb)⟩
theorem KB.setCell {n₀ Bs : Nat} {A W : World} (h : KB n₀ Bs A W) {p : Addr} (h0 : n₀ ≤ p.block) (h1 : p.block ≠ Bs) (v : Value) : KB n₀ Bs A (W.setCell p v) :=
 ⟨h.1.setCell h0 v, fun hb => (Below.heap_setCell W p v Bs (Ne.symm h1)).trans (h.2 hb)⟩
theorem KB.alloc {n₀ Bs : Nat} {A W : World} (h : KB n₀ Bs A W) (hn : n₀ ≤ W.heap.size) (o : Obj) : KB n₀ Bs A (W.alloc o) :=
 ⟨h.1.alloc hn o, fun hb => (Below.heap_alloc W o Bs (Nat.lt_of_lt_of_le hb h.1.size)).trans (h.2 hb)⟩
theorem KB.drew {n₀ Bs : Nat} {A W : World} (h : KB n₀ Bs A W) : KB n₀ Bs A W.drew := ⟨h.1.drew, h.2⟩
theorem KB.below {n₀ Bs : Nat} {A W W' : World} (h : KB n₀ Bs A W) (hb : Below W.heap.size W W') (hn : n₀ ≤ W.heap.size) : KB n₀ Bs A W' :=
 ⟨h.1.trans (hb.mono hn), fun h1 => (hb.block Bs (Nat.lt_of_lt_of_le h1 h.1.size)).trans (h.2 h1)⟩
theorem KB.grown {n₀ Bs : Nat} {A W W' : World} {row : Option Nat} (h : KB n₀ Bs A W) (hg : W.grownBy W' row) (hn : n₀ ≤ W.heap.size) (hr : ∀ k, row = some k → n₀ ≤ k ∧ k ≠ Bs) : KB n₀ Bs A W' :=
 ⟨h.1.grown hg hn (fun k e => (hr k e).1), fun h1 => (hg.block Bs (Nat.lt_of_lt_of_le h1 h.1.size) (fun e => (hr Bs e.symm).2 rfl)).trans (h.2 h1)⟩
theorem kb_t {n₀ Bs : Nat} {A B C : World} (h : KB n₀ Bs A B) (k : KB n₀ Bs B C) : KB n₀ Bs A C := h.trans k
theorem kb_b {n₀ Bs : Nat} {w : World} (hn : n₀ ≤ w.heap.size) (hs : Bs < w.heap.size) (W : World) (l : Nat) (o o' : Obj) (hl : w.heap.size ≤ l) (h : W.heap[l]? = some o) (h1 : o.isCells = false) (h2 : o.isWalk = false) : KB n₀ Bs W (W.putObj l o') :=
 ⟨belowK_b hn W l o o' hl h h1 h2, fun _ => World.putObj_heap_other (by omega)⟩
theorem back1_in (F : Fence) (n : Nat) (h7 : F.fn 167) (hro : F.round = none) (hn : 1 ≤ n) (l Bs n₀ : Nat) (A : Option Addr) (cap : Nat) (zs : List Int) (hm : zs.length ≤ 9223372036854775807) (J Jx : List (BkT zs) → World → Prop)
  (hY : ∀ pre x W, J pre W → pre.length < zs.length → YieldAt F (n - 1) Tryz.prog l (enc2 x) W fun e W' =>
   (e = .returned (.bool true) ∧ J (pre ++ [x]) W' ∧ KB n₀ Bs W W') ∨ (e = .returned (.bool false) ∧ Jx (pre ++ [x]) W'))
  (W : World) (hBs : Boxed W Bs 86 (.slice A zs.length cap)) (hc : ∀ W', Below n₀ W W' → Kd.C (Kd.int .i64) W' A zs.length zs) (h0 : J [] W) :
  CallsIn F n Tryz.prog 167 #[.func (.yield l) #[] #[], .pointer (some ⟨Bs, 0, none⟩)] W fun e W' => (∃ v, e = .returned v) ∧
   ((∃ ys, ys = bk zs zs.length ∧ J ys W') ∨ (∃ pre, (∃ k, k < zs.length ∧ pre = bk zs (k + 1)) ∧ Jx pre W')) := by
 have hBc := hBs.cell
 refine callsIn_of_wp Tryz.func167 rfl h7 ?_ hro
 simp only [Tryz.ntmps167, List.size_toArray, List.length_cons, List.length_nil, Nat.reduceAdd, Nat.reduceSub, Array.replicate_succ, Array.replicate_zero, List.push_toArray, List.append_toArray, List.nil_append, List.cons_append]
 gi_wp2
 gi_loopw [3] (fun i wr => ∃ k : Nat, k ≤ zs.length ∧ i = .int .i64 ((zs.length : Int) - 1 - k) ∧ J (bk zs k) wr ∧ KB n₀ Bs W wr)
  (fun i _ => ((Go.RowKit.intOf i) + 1).toNat)
 case atStart => exact ⟨0, Nat.zero_le _, by simp, h0, KB.refl _ _ _⟩
 case round =>
  obtain ⟨k, hk, rfl, hJs, hnx⟩ := hrel
  have hBs' : wr.cell? ⟨Bs, 0, none⟩ = some (.slice A zs.length cap) := (show Boxed wr Bs 86 _ from (hnx.2 hBs.lt).trans hBs).cell
  by_cases hlt : k < zs.length
  ·obtain ⟨ad, rfl, hcx⟩ := Kd.at_int (hc wr hnx.1) ((zs.length : Int) - 1 - k) (by omega) (by omega)
   obtain ⟨fn, tmps, assign, body, hy, hR⟩ := hY _ (bkx zs k hlt) wr hJs (by rw [bk_length _ _ hk]; exact hlt)
   dsimp only [enc2, bkx] at hy
   have hcy : wr.cell? (ad.add (zs.length - 1 - k)) = some (.int .i64 (rd zs ((zs.length : Int) - 1 - k))) := by
    have : ((zs.length : Int) - 1 - k).toNat = zs.length - 1 - k := by omega
    rw [← this]; exact hcx
   clear hcx
   gi_wp2
   refine hR.mono ?_
   rintro e W3 (⟨rfl, hJ3, hk3⟩ | ⟨rfl, hJx3⟩)
   ·gi_wp2
    go_roundw
    case rel => exact ⟨k + 1, by omega, by go_num, by rw [bk_succ _ _ hlt]; exact hJ3, hnx.trans hk3⟩
    case measure => simp [Go.RowKit.intOf]; omega
   gi_wp2
   refine bodyPost_ret (results_none rfl _ _ _) rfl ?_
   exact ⟨⟨_, rfl⟩, .inr ⟨_, ⟨k, hlt, rfl⟩, by rw [bk_succ _ _ hlt]; exact hJx3⟩⟩
  obtain rfl : k = zs.length := by omega
  gi_wp2
  go_end0
  exact ⟨⟨_, rfl⟩, .inl ⟨_, rfl, hJs⟩⟩
theorem back_stops (F : Fence) (n : Nat) (h7 : F.fn 167) (hro : F.round = none) (hn : 1 ≤ n) (Bs n₀ : Nat) (A : Option Addr) (cap : Nat) (zs : List Int) (hm : zs.length ≤ 9223372036854775807) (w : World)
  (hBs : Boxed w Bs 86 (.slice A zs.length cap)) (hn₀ : n₀ ≤ w.heap.size) (hc : ∀ W', Below n₀ w W' → Kd.C (Kd.int .i64) W' A zs.length zs) :
  SeqStopsK F n Tryz.prog 167 #[.pointer (some ⟨Bs, 0, none⟩)] enc2 (KB n₀ Bs) (fun ys => ys = bk zs zs.length) (fun pre => ∃ k, k < zs.length ∧ pre = bk zs (k + 1)) zs.length w := fun l J Jx W hW _ _ hY h0 =>
 back1_in F n h7 hro hn l Bs n₀ A cap zs hm J Jx hY W ((hW.block Bs hBs.lt).trans hBs) (fun W' hb => hc W' ((hW.mono hn₀).trans hb)) h0
theorem back_in (F : Fence) (n : Nat) (h5 : F.fn 128) (hro : F.round = none) (a : Option Addr) (len cap : Nat) (w : World) :
  CallsIn F n Tryz.prog 128 #[.slice a len cap] w fun e w' => e = .returned (.func (.func 167) #[] #[.pointer (some ⟨w.heap.size, 0, none⟩)]) ∧ w' = w.alloc (.cells #[.slice a len cap] 86) := by
 refine callsIn_of_wp Tryz.func128 rfl h5 ?_ hro
 simp only [Tryz.ntmps128, List.size_toArray, List.length_cons, List.length_nil, Nat.reduceAdd, Nat.reduceSub, Array.replicate_succ, Array.replicate_zero, List.push_toArray, List.append_toArray, List.nil_append, List.cons_append]
 gi_wp2
 go_ret
 exact ⟨rfl, rfl⟩
theorem rd_range {B : Int} (hB : 0 < B) {l : List Int} (h : Sv.Digs B l) (i : Int) : 0 ≤ rd l i ∧ rd l i < B := by
 unfold rd
 rw [List.getD_eq_getElem?_getD]
 cases hx : l[i.toNat]? with
 | none => simp; exact hB
 | some x => exact h x (List.mem_of_getElem? hx)
theorem order_in (F : Fence) (n : Nat) (h1 : F.fn 145) (h2 : F.fn 128) (h3 : F.fn 167) (hro : F.round = none) (hn : 3 ≤ n) (A0 : Option Addr) (c0 : Nat) (l0 : List Int) (A1 : Option Addr) (c1 : Nat) (l1 : List Int) (w : World)
  (hr0 : Kd.C (Kd.int .i64) w A0 l0.length l0) (hr1 : Kd.C (Kd.int .i64) w A1 l1.length l1) (he : l0.length = l1.length)
  (hd : ∀ i : Int, -4611686018427387904 ≤ rd l0 i - rd l1 i ∧ rd l0 i - rd l1 i ≤ 4611686018427387904) :
  CallsIn F n Tryz.prog 145 #[.slice A0 l0.length c0, .slice A1 l1.length c1] w fun e w' => e = .returned (.int .i64 (ordAt l0 l1 l0.length)) ∧ Below w.heap.size w w' := by
 have hm0 := Kd.C_max hr0
 have hm1 := Kd.C_max hr1
 have h1' : 1 ≤ n := by omega
 have hen : ((l0.length : Int) != (l1.length : Int)) = false := by rw [he]; simp
 have hE := Lib.hid he
 clear he
 have HD := Lib.hid hd
 clear hd
 refine callsIn_of_wp_marks Tryz.func145 rfl h1 ?_ hro
 simp only [Tryz.ntmps145, List.size_toArray, List.length_cons, List.length_nil, Nat.reduceAdd, Nat.reduceSub, Array.replicate_succ, Array.replicate_zero, List.push_toArray, List.append_toArray, List.nil_append, List.cons_append]
 gi_wp2_with (gi_at_call 128; refine (back_in F (n - 1) h2 hro _ _ _ _).mono ?_; rintro e w' ⟨rfl, rfl⟩)
 obtain ⟨W0, hW0⟩ : ∃ W0, ((w.alloc (.cells #[.slice A1 l1.length c1] 86)).alloc (.cells #[.int .i64 0] 3)).alloc (.cells #[.slice A0 l0.length c0] 86) = W0 := ⟨_, rfl⟩
 have hB0 : Below w.heap.size w W0 := by rw [← hW0]; exact (((Below.refl _ w).alloc (Nat.le_refl _) _).alloc (by simp) _).alloc (by simp; omega) _
 have hs0 : W0.heap.size = w.heap.size + 3 := by rw [← hW0]; simp
 have hby : Boxed W0 w.heap.size 86 (.slice A1 l1.length c1) := by rw [← hW0]; exact ((Boxed.new _ _ _).alloc _).alloc _
 have hbr : Boxed W0 (w.heap.size + 1) 3 (.int .i64 0) := by
  rw [← hW0]; have := (Boxed.new (w.alloc (.cells #[.slice A1 l1.length c1] 86)) 3 (.int .i64 0)).alloc (.cells #[.slice A0 l0.length c0] 86); rwa [World.size_alloc] at this
 have hbs : Boxed W0 (w.heap.size + 1 + 1) 86 (.slice A0 l0.length c0) := by
  rw [← hW0]; have := Boxed.new ((w.alloc (.cells #[.slice A1 l1.length c1] 86)).alloc (.cells #[.int .i64 0] 3)) 86 (.slice A0 l0.length c0); simpa using this
 rw [hW0]
 refine wpIn_rangeFunc_ownF hro h1' (gf := 167) (lb := #[.pointer (some ⟨w.heap.size + 1 + 1, 0, none⟩)]) rfl h3 (enters_of Tryz.func167 (by kernel_rfl) rfl)
  (back_stops F (n - 1) h3 hro (by omega) (w.heap.size + 1 + 1) w.heap.size A0 c0 l0 hm0 W0 hbs (by omega) (fun W' hb => Kd.C_below hr0 (hB0.trans hb))) kb_t (kb_b (by omega) (by omega)) (Below.refl _ _) (fun _ => rfl)
  (fun pre W => ((∀ p ∈ pre, p.1.2 = rd l1 p.1.1) ∧ Boxed W w.heap.size 86 (.slice A1 l1.length c1) ∧ Boxed W (w.heap.size + 1) 3 (.int .i64 0)) ∧ Below w.heap.size w W)
  (fun c pre W => (c = .ret ∧ ∃ pre' x, pre = pre' ++ [x] ∧ (∀ p ∈ pre', p.1.2 = rd l1 p.1.1) ∧ x.1.2 ≠ rd l1 x.1.1 ∧ W.cell? ⟨w.heap.size + 1, 0, none⟩ = some (.int .i64 (x.1.2 - rd l1 x.1.1))) ∧ Below w.heap.size w W)
  (OwnFrom.and (Own.from (fun s A B row hs hg hr => ⟨hs.1, boxed_own _ _ (fun _ => _) s A B row hs.2.1 hg hr, boxed_own _ _ (fun _ => _) s A B row hs.2.2 hg hr⟩) _) (ownFrom_below (Nat.le_refl _) (by omega)))
  (fun c => OwnFrom.and (Own.from (fun s A B row hs hg hr => by obtain ⟨h, p, x, e1, e2, e3, e4⟩ := hs; exact ⟨h, p, x, e1, e2, e3, cell_kept e4 hg hr⟩) _) (ownFrom_below (Nat.le_refl _) (by omega)))
  ⟨⟨by simp, hby, hbr⟩, hB0⟩
  ?act1 ?assign ?body ?done ?stop
 case assign =>
  intro l x W K hK
  simp only [enc2]
  gi_wp2
  exact hK
 case body =>
  rintro l pre x W ⟨⟨hp, hy, hr⟩, hB⟩ _
  have hl1 := hE.out
  have hx0 := x.2.1
  have hx1 := x.2.2.1
  have hxd := HD.out x.1.1
  rw [← x.2.2.2] at hxd
  obtain ⟨⟨i, v⟩, hx⟩ := x
  simp only at hx0 hx1 hxd
  obtain ⟨ad, rfl, hcx⟩ := Kd.at_int (Kd.C_below hr1 hB) i hx0 (by omega)
  have hyc := hy.cell
  have hrc := hr.cell
  have hrf := hr.frozen
  have hi1 : i < (l1.length : Int) := by omega
  clear hl1
  obtain ⟨q, hq⟩ : ∃ q, rd l1 i = q := ⟨_, rfl⟩
  rw [hq] at hcx hxd
  have HQ := Lib.hid hq
  clear hq
  have hxd1 := hxd.1
  have hxd2 := hxd.2
  gi_wp2
  ·rename_i hne
   have hne' : v ≠ q := by simpa using hne
   refine ⟨KeepsOthers.setCell _ _ _, ⟨rfl, pre, _, rfl, hp, by rw [HQ.out]; exact hne', ?_⟩, hB.setCell (p := ⟨w.heap.size + 1, 0, none⟩) (by simp) _⟩
   rw [HQ.out]
   exact World.cell?_setCell_same' _ _ _ (by rw [hrc]; rfl)
  rename_i hne
  have hne' : v = q := by simpa using hne
  refine ⟨KeepsOthers.refl _, KB.refl _ _ _, ⟨fun p hm => ?_, hy, hr⟩, hB⟩
  rcases List.mem_append.1 hm with hm | hm
  ·exact hp p hm
  rw [List.mem_singleton] at hm
  rw [hm, HQ.out]
  exact hne'
 case done =>
  rintro D ys W hD rfl ⟨⟨hp, hy, hr⟩, hB⟩ hK
  have hrc := hr.cell
  have hrf := hr.frozen
  have hfin : ordAt l0 l1 l0.length = 0 := by
   have key : ∀ k : Nat, k ≤ l0.length → ordAt l0 l1 k = 0 := by
    intro k
    induction k with
    | zero => intro _; rfl
    | succ k ih =>
     intro hk
     have := hp (⟨((k : Int), rd l0 k), by simp only; omega, by simp only; omega, rfl⟩) ((bk_mem (Nat.le_refl _) _).2 (by simp only; omega))
     simp only at this
     rw [ordAt, if_pos this, ih (by omega)]
   exact key _ (Nat.le_refl _)
  have HF := Lib.hid hfin
  clear hfin
  gi_wp2
  have hK' := (KeepsOthers.setCell W ⟨w.heap.size + 1, 0, none⟩ (.int .i64 0)).same D _ hK rfl
  refine ⟨by simp, .inl ⟨_, _, rfl, run_takeDeferred hK', ?_⟩⟩
  have hc5 := cell_kept (World.cell?_setCell_same' W ⟨w.heap.size + 1, 0, none⟩ (.int .i64 0) (by rw [hrc]; rfl)) (grownBy_putObj' _ D (.deferred none)) (fun r e => by cases e; exact ⟨_, hK', rfl⟩)
  refine ⟨.int .i64 0, ?_, by rw [HF.out], (hB.setCell (p := ⟨w.heap.size + 1, 0, none⟩) (by simp) _).trans (belowK_b (w := w) (Nat.le_refl _) _ D _ _ (by omega) hK' rfl rfl)⟩
  simp [results, Tryz.f145, go_sem, hc5]
 case stop =>
  rintro D c pre W hD ⟨k, hk, rfl⟩ ⟨⟨rfl, pre', x, hpre, hp, hne, hrc⟩, hB⟩ hK
  rw [bk_succ _ _ hk] at hpre
  obtain ⟨rfl, rfl⟩ : bk l0 k = pre' ∧ bkx l0 k hk = x := by
   have h2 := List.append_inj' hpre rfl
   exact ⟨h2.1, by simpa using h2.2⟩
  have hfin : ordAt l0 l1 l0.length = (bkx l0 k hk).1.2 - rd l1 (bkx l0 k hk).1.1 := by
   have key : ∀ j : Nat, j ≤ k → ordAt l0 l1 l0.length = ordAt l0 l1 (l0.length - j) := by
    intro j
    induction j with
    | zero => intro _; rfl
    | succ j ih =>
     intro hj
     rw [ih (by omega)]
     have e : l0.length - j = (l0.length - (j + 1)) + 1 := by omega
     have := hp (⟨(((l0.length - (j + 1) : Nat) : Int), rd l0 ((l0.length - (j + 1) : Nat) : Int)), by simp only; omega, by simp only; omega, rfl⟩) ((bk_mem (by omega) _).2 (by simp only; omega))
     simp only at this
     rw [e, ordAt, if_pos this]
   have e : l0.length - k = (l0.length - (k + 1)) + 1 := by omega
   have e2 : (l0.length : Int) - 1 - k = ((l0.length - (k + 1) : Nat) : Int) := by omega
   simp only [bkx, e2] at hne ⊢
   rw [key k (Nat.le_refl _), e, ordAt, if_neg hne]
  rw [← hfin] at hrc
  clear hfin hne hp
  gi_wp2
  refine ⟨by simp, .inl ⟨_, _, rfl, run_takeDeferred hK, ?_⟩⟩
  have hc5 := cell_kept hrc (grownBy_putObj' _ D (.deferred none)) (fun r e => by cases e; exact ⟨_, hK, rfl⟩)
  refine ⟨.int .i64 (ordAt l0 l1 l0.length), ?_, rfl, hB.trans (belowK_b (w := w) (Nat.le_refl _) W D _ _ (by omega) hK rfl rfl)⟩
  simp [results, Tryz.f145, go_sem, hc5]
theorem digs_sub {x y : List Int} (hx : Sv.Digs Sv.LB x) (hy : Sv.Digs Sv.LB y) (i : Int) : -4611686018427387904 ≤ rd x i - rd y i ∧ rd x i - rd y i ≤ 4611686018427387904 := by
 have h1 := rd_range (by decide) hx i
 have h2 := rd_range (by decide) hy i
 have : Sv.LB = 1000000000 := rfl
 omega
theorem bIorder.calls (A0 : Option Addr) (c0 : Nat) (l0 : List Int) (A1 : Option Addr) (c1 : Nat) (l1 : List Int) (r : Int) (w : World) (hr0 : Kd.C (Kd.int .i64) w A0 l0.length l0) (hc0 : l0.length ≤ c0) (hr1 : Kd.C (Kd.int .i64) w A1 l1.length l1) (hc1 : l1.length ≤ c1) (h : bIorder.f l0 l1 = some r) :
  Calls Tryz.prog 145 #[.slice A0 l0.length c0, .slice A1 l1.length c1] w fun e w' => e = .returned (.int .i64 r) ∧ Below w.heap.size w w' := by
 unfold bIorder.f at h
 by_cases hd : Sv.Digs Sv.LB l0 ∧ Sv.Digs Sv.LB l1 ∧ l0.length ≤ 4611686018427387904 ∧ l1.length ≤ 4611686018427387904
 ·rw [if_pos hd] at h
  obtain rfl := Option.some.inj h
  by_cases he : l0.length = l1.length
  ·rw [if_pos he]
   exact (callsIn_wide (n := 3)).1 (order_in Fence.wide 3 trivial trivial trivial rfl (by omega) A0 c0 l0 A1 c1 l1 w hr0 hr1 he (digs_sub hd.1 hd.2.1))
  rw [if_neg he]
  have hen : ((l0.length : Int) != (l1.length : Int)) = true := by rw [bne_iff_ne]; omega
  have h1 := hd.2.2.1
  have h2 := hd.2.2.2
  have hz := run_underlying (P := Tryz.prog) Tryz.underlying3
  clear hd h he
  go_enter Tryz.func145, Tryz.ntmps145
  go_wp2
  refine bodyPost_ret (v := .int .i64 ((l0.length : Int) - l1.length)) ?_ rfl ⟨rfl, ?_⟩
  ·simp [results, Tryz.f145, go_sem]
  exact ((Below.refl _ w).alloc (Nat.le_refl _) _).alloc (by simp) _
 rw [if_neg hd] at h
 cases h
theorem gk_length (ds : List Int) (k : Nat) : (gk ds k).length = k := by
 induction k with
 | zero => rfl
 | succ k ih => simp [gk, ih]
theorem AllD.digs {l : List UInt8} (h : AllD l) : Sv.Digs 10 (l.reverse.map Sv.chd) := by
 intro d hd
 obtain ⟨c, hc, rfl⟩ := List.mem_map.1 hd
 have := h c (by simpa using hc)
 unfold Sv.chd
 omega
theorem valN_cons (c : UInt8) (t : List UInt8) : Sv.valN (c :: t) = Sv.valN t + 10 ^ t.length * Sv.chd c := by
 unfold Sv.valN
 rw [List.reverse_cons, List.map_append, Sv.vl_append]
 simp [Sv.vl]
theorem valN_nonneg {l : List UInt8} (h : AllD l) : 0 ≤ Sv.valN l := Sv.vl_nonneg (by decide) h.digs
theorem decFrom_valN : ∀ (l : List UInt8) (acc : Nat), AllD l → Lib.decFrom acc l = some (acc * 10 ^ l.length + (Sv.valN l).toNat) := by
 intro l
 induction l with
 | nil => intro acc _; simp [Lib.decFrom, Sv.valN, Sv.vl]
 | cons c t ih =>
  intro acc h
  have hc := h c (by simp)
  have ht : AllD t := fun x hx => h x (by simp [hx])
  have hd : Lib.digitVal c = some (c.toNat - 48) := by
   unfold Lib.digitVal
   simp [hc.1, hc.2]
  rw [Lib.decFrom, hd]
  simp only
  rw [ih _ ht, valN_cons]
  have h0 := valN_nonneg ht
  have e : Sv.chd c = ((c.toNat - 48 : Nat) : Int) := by unfold Sv.chd; omega
  obtain ⟨v, hv⟩ : ∃ v : Nat, Sv.valN t = v := ⟨(Sv.valN t).toNat, by omega⟩
  rw [e, hv]
  congr 1
  have e2 : ((v : Int) + 10 ^ t.length * ((c.toNat - 48 : Nat) : Int)).toNat = v + 10 ^ t.length * (c.toNat - 48) := by
   have : ((v : Int) + 10 ^ t.length * ((c.toNat - 48 : Nat) : Int)) = ((v + 10 ^ t.length * (c.toNat - 48) : Nat) : Int) := by push_cast; rfl
   rw [this, Int.toNat_natCast]
  rw [e2, List.length_cons, Nat.pow_succ, Int.toNat_natCast]
  generalize 10 ^ t.length = p
  generalize c.toNat - 48 = q
  grind
theorem atoi_valN {l : List UInt8} (h : AllD l) (hne : l ≠ []) : Lib.atoi l = some (Sv.valN l) := by
 cases l with
 | nil => exact absurd rfl hne
 | cons c t =>
  have hc := h c (by simp)
  have h45 : (c == 45) = false := by
   rw [beq_eq_false_iff_ne]; rintro rfl; have := hc.1; simp at this
  have h43 : (c == 43) = false := by
   rw [beq_eq_false_iff_ne]; rintro rfl; have := hc.1; simp at this
  have h0 := valN_nonneg h
  rw [Lib.atoi, h45, h43]
  simp only [Bool.false_eq_true, if_false]
  rw [Lib.decNat]
  simp only [List.isEmpty_cons, Bool.false_eq_true, if_false]
  rw [decFrom_valN _ _ h]
  simp
  omega
theorem sub_valN (l : List UInt8) (k : Nat) (h : 9 * k < l.length) : Sv.valN ((l.take (l.length - 9 * k)).drop (l.length - 9 * k - 9)) = Sv.vl 10 (((l.reverse.map Sv.chd).drop (9 * k)).take 9) := by
 unfold Sv.valN
 rw [← List.map_drop, ← List.map_take]
 congr 2
 rw [List.drop_reverse, List.take_reverse, List.length_take]
 congr 1
 congr 1
 omega
theorem sub_alld {l : List UInt8} (h : AllD l) (i j : Nat) : AllD ((l.take j).drop i) := fun c hc => h c (List.mem_of_mem_take (List.mem_of_mem_drop hc))
theorem chk1_in (n : Nat) (hn : 1 ≤ n) (l Bs n₀ : Nat) (a0 : ByteArray) (m : Nat) (hm1 : a0.size ≤ 9 * m) (hm2 : 9 * m < a0.size + 9) (hdig : AllD a0.data.toList) (hm : a0.size ≤ 4611686018427387904) (J Jx : List Int → World → Prop) (W : World) (hn₀ : n₀ ≤ W.heap.size) (hJ : AbidesFrom W.heap.size J)
    (hY : ∀ pre x W, J pre W → pre.length < m → YieldAt Fence.wide (n - 1) Tryz.prog l #[.int .i64 x] W fun e W' =>
      (e = .returned (.bool true) ∧ J (pre ++ [x]) W' ∧ KB n₀ Bs W W') ∨ (e = .returned (.bool false) ∧ Jx (pre ++ [x]) W'))
    (hBs : Boxed W Bs 9 (.string a0)) (h0 : J [] W) :
    CallsIn Fence.wide n Tryz.prog 193 #[.func (.yield l) #[] #[], .pointer (some ⟨Bs, 0, none⟩)] W fun e W' => (∃ v, e = .returned v) ∧
      ((∃ ys, ys = gk (dl a0) m ∧ J ys W') ∨ (∃ pre, (∃ k, k < m ∧ pre = gk (dl a0) (k + 1)) ∧ Jx pre W')) := by
 have hBc := hBs.cell
 have hf194 : Fence.wide.fn 194 := trivial
 refine callsIn_of_wp Tryz.func193 rfl trivial ?_ rfl
 simp only [Tryz.ntmps193, List.size_toArray, List.length_cons, List.length_nil, Nat.reduceAdd, Nat.reduceSub, Array.replicate_succ, Array.replicate_zero, List.push_toArray, List.append_toArray, List.nil_append, List.cons_append]
 gi_wp2
 gi_loopw [3] (fun i wr => ∃ k : Nat, k ≤ m ∧ i = .int .i64 ((a0.size : Int) - 9 * k) ∧ J (gk (dl a0) k) wr ∧ KB n₀ Bs W wr)
  (fun i _ => match i with | .int _ z => (z + 9).toNat | _ => 0)
 case atStart => exact ⟨0, Nat.zero_le _, by simp, h0, KB.refl _ _ _⟩
 case round =>
  obtain ⟨k, hk, rfl, hJs, hnx⟩ := hrel
  have hBs' : wr.cell? ⟨Bs, 0, none⟩ = some (.string a0) := (show Boxed wr Bs 9 _ from (hnx.2 hBs.lt).trans hBs).cell
  by_cases hlt : k < m
  ·obtain ⟨hi, hhi⟩ : ∃ hi : Nat, (a0.size : Int) - 9 * k = hi := ⟨a0.size - 9 * k, by omega⟩
   rw [hhi]
   have hpos : 0 < hi := by omega
   have hle : hi ≤ a0.size := by omega
   obtain ⟨lo, hlo⟩ : ∃ lo : Nat, lo = hi - 9 := ⟨_, rfl⟩
   have hmx : max (0 : Int) ((hi : Int) - 9) = (lo : Int) := by omega
   have hlh : lo ≤ hi := by omega
   obtain ⟨z, hz⟩ : ∃ z, Sv.vl 10 (((dl a0).drop (9 * k)).take 9) = z := ⟨_, rfl⟩
   have hlen : a0.data.toList.length = a0.size := rfl
   have hex : (a0.extract lo hi).data.toList = (a0.data.toList.take hi).drop lo := by simp [ByteArray.data_extract, Array.toList_extract, List.extract_eq_take_drop, List.drop_take]
   have hsz : (a0.extract lo hi).size ≤ 18 := by
    have e1 : (a0.extract lo hi).size = (a0.extract lo hi).data.toList.length := rfl
    rw [e1, hex, List.length_drop, List.length_take]
    omega
   have hat : Lib.atoi (a0.extract lo hi).data.toList = some z := by
    have e1 : hi = a0.data.toList.length - 9 * k := by omega
    have e2 : lo = a0.data.toList.length - 9 * k - 9 := by omega
    rw [hex, atoi_valN (sub_alld hdig _ _) (by intro e; have := congrArg List.length e; rw [List.length_drop, List.length_take, List.length_nil] at this; omega), e1, e2, sub_valN _ _ (by omega)]; rw [← hz]; rfl
   have hgk : gk (dl a0) (k + 1) = gk (dl a0) k ++ [z] := by rw [gk, hz]
   have HE := Lib.hid hhi
   have HG := Lib.hid hgk
   clear hhi hlo hex hz hgk hlen
   gi_wp2_with (gi_at_call 194; refine (callsIn_wide.2 (Tryz.strconv_Atoi (a0.extract lo hi) z hsz hat wr)).mono ?_; rintro e W2 ⟨rfl, t', ht⟩
                have hb2 : Below wr.heap.size wr W2 := by rw [ht]; exact Lib.bytesWorld_below wr 5 t'
                clear ht
                have hJ2 := hJ _ wr W2 none hJs ⟨hb2.os, hb2.tape, hb2.output, hb2.size, fun j hj _ => hb2.block j hj⟩ (fun r e => by cases e)
                have hn2 := hnx.below hb2 (Nat.le_trans hn₀ hnx.1.size)
                obtain ⟨fn, tmps, assign, body, hy, hR⟩ := hY _ z W2 hJ2 (by rw [gk_length]; exact hlt))
   refine hR.mono ?_
   rintro e W3 (⟨rfl, hJ3, hk3⟩ | ⟨rfl, hJx3⟩)
   ·gi_wp2
    go_roundw
    case rel => exact ⟨k + 1, by omega, by have := HE.out; go_num, by rw [HG.out]; exact hJ3, hn2.trans hk3⟩
    case measure => dsimp only; omega
   gi_wp2
   refine bodyPost_ret (results_none rfl _ _ _) rfl ?_
   exact ⟨⟨_, rfl⟩, .inr ⟨_, ⟨k, hlt, rfl⟩, by rw [HG.out]; exact hJx3⟩⟩
  obtain rfl : k = m := by omega
  have hnp : ¬ (0 : Int) < (a0.size : Int) - 9 * k := by omega
  gi_wp2
  go_end0
  exact ⟨⟨_, rfl⟩, .inl (by first | exact ⟨_, rfl, hJs⟩ | exact hJs)⟩
end Go.Proofs.YthnfajboebaajaaGreatDoor
