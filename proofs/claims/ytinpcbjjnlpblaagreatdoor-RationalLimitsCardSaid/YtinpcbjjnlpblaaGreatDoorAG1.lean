import Derived.Test.YtinpcbjjnlpblaaGreatDoorAW
import Derived.Test.YtinpcbjjnlpblaaGreatDoorProg
import Derived.KernelRfl
import Derived.Shelf.Strings.Builder1
import Derived.Shelf.Strings.Builder2
import Derived.Shelf.Strings.Trim
import Derived.Shelf.Small.Utf8
import Derived.Shelf.Small.Strs
import Derived.Shelf.Small.Wraps
import Derived.Shelf.Strings.BuilderF
import Derived.Shelf.Strings.BuilderK
import Derived.Shelf.Strconv.Atoi
import Derived.Shelf.Strconv.Itoa0
import Derived.Shelf.Strconv.Itoa1
import Derived.Shelf.LaysM
import Derived.Shelf.Strconv.Itoa2
import Derived.Shelf.Strconv.Itoa3
import Derived.Shelf.Strings.Search1
import Derived.Shelf.Strings.Search2
import Derived.Shelf.Strings.Search3
import Derived.Shelf.Strings.Shaped
import Derived.Shelf.Strings.Prefix
import Derived.Shelf.Strings.Runes
import Derived.Shelf.Strings.AsciiSet
import Derived.Shelf.Bits.Mul64
import Derived.Shelf.Strings.Repeat
import Derived.Shelf.Unicode.DecodeSlow
import Derived.Shelf.Strings.SlTrimAscii
import Derived.Test.YtinpcbjjnlpblaaGreatDoorAD
import Derived.Lib.LaidTab
import Derived.Lib.AppendIntMem
import Derived.Test.YtinpcbjjnlpblaaGreatDoorAP2
import Derived.Deep.RegionHeld3
import Derived.WideLaws
import Derived.MapKept
import Derived.RangeFuncOwn
set_option maxHeartbeats 8000000
set_option maxRecDepth 100000
set_option linter.unusedVariables false
namespace Go.Proofs.YtinpcbjjnlpblaaGreatDoor
set_option linter.unusedVariables false
open Go.RowKit Go.Proofs.WWords Go.Proofs.WLast Go.Proofs.WMore
theorem bq {B : Nat} {w W : World} (h : Below B w W := by repeat (first | (with_reducible first | exact HB.out | apply below_alloc | apply pw_below_drewN | apply below_drew1) | exact HB.out)) : Below B w W := h
theorem goB {P : Program} {ops : Array Oper} {Q : Exit → Act → World → Prop} {rest : List Oper} {oi : Oper} {a : Act} {W w0 : World} {f : FuncId} {fn : Func} {ars : Array Operand} {ts : Array TypeId} {v : Value} (N : Option Tmp) (hf : P.funcs[f]? = some fn) (args : Array Value)
    (hB : Below w0.heap.size w0 W) (hc : Calls P f args W fun e w' => e = .returned v ∧ Below W.heap.size W w') (K : ∀ w', Z0 (Below w0.heap.size w0 w') → wpList P ops Q rest (a.put N v) w')
    (hd : oi.dst = N := by rfl) (hg : oi.guard = none := by rfl) (hname : (fn.name == "runtime.NumGoroutine") = false := by kernel_rfl) (hb : fn.body.isSome = true := by rfl) (hop : oi.op = .call { callee := .value (.func f), args := ars, argTypes := ts } := by rfl)
    (hargs : ars.map a.eval = args := by (try simp only [List.map_toArray, List.map_cons, List.map_nil]); first | done | rfl | (simp only [List.length_drop, List.length_take]; rfl)) : wpList P ops Q (oi :: rest) a W := by
  refine goesL_ N hd hg hf hname hb args hop hargs (hc.mono ?_)
  rintro e w' ⟨rfl, hb⟩
  exact ⟨_, rfl, K w' (Z0.mk (below_step hB hb))⟩
theorem goD {P : Program} {ops : Array Oper} {Q : Exit → Act → World → Prop} {rest : List Oper} {oi : Oper} {a : Act} {W : World} {f : FuncId} {fn : Func} {ars : Array Operand} {ts : Array TypeId} {v : Value} (N : Option Tmp) (hf : P.funcs[f]? = some fn) (args : Array Value)
    (hc : Calls P f args W fun e w' => e = .returned v ∧ Drawn0 W w') (K : ∀ nd, wpList P ops Q rest (a.put N v) (W.drewN nd))
    (hd : oi.dst = N := by rfl) (hg : oi.guard = none := by rfl) (hname : (fn.name == "runtime.NumGoroutine") = false := by kernel_rfl) (hb : fn.body.isSome = true := by rfl) (hop : oi.op = .call { callee := .value (.func f), args := ars, argTypes := ts } := by rfl)
    (hargs : ars.map a.eval = args := by (try simp only [List.map_toArray, List.map_cons, List.map_nil]); first | done | rfl | (simp only [List.length_drop, List.length_take]; rfl)) : wpList P ops Q (oi :: rest) a W := by
  refine goesL_ N hd hg hf hname hb args hop hargs (hc.mono ?_)
  rintro e w' ⟨rfl, ⟨nd, rfl⟩⟩
  exact ⟨_, rfl, K nd⟩
theorem bnd {α β : Type} {o : Option α} {f : α → Option β} {r : β} (h : o.bind f = some r) : ∃ x, Z0 (o = some x) ∧ f x = some r := by
 obtain ⟨x, h1, h2⟩ := Option.bind_eq_some_iff.mp h
 exact ⟨x, ⟨h1⟩, h2⟩
theorem bqs {B : Nat} {w W : World} (h : Below B w W := by repeat (first | (with_reducible first | exact HB.out | apply below_alloc | apply pw_below_drewN | apply below_drew1 | refine below_set ?_ (Z0.out (by with_reducible assumption))) | exact HB.out)) : Below B w W := h
theorem kqs {w W : World} {S : Nat → Prop} (h : Kept w W S := by repeat (first | (with_reducible first | exact HK.out | apply Kept.alloc | apply Kept.drewN | apply Kept.drew | refine Kept.setCell ?_ (.inr (Z0.out (by with_reducible assumption))) _) | exact HK.out)) : Kept w W S := h
theorem rq {α : Type} {d : Kd α} {e base : Nat} {ok : Nat → Prop} {W0 W : World} {v : Value} {xs : List α} (h0 : Z0 (d.R e W0 base ok v xs)) (s : d.R e W0 base ok v xs → d.R e W base ok v xs := by intro h_; (with_reducible repeat (first | apply Kd.R_alloc | apply Kd.R_drewN | apply Kd.R_drew)); exact h_) : d.R e W base ok v xs := s h0.out
theorem vq {α : Type} {d : Kd α} {e base : Nat} {ok : Nat → Prop} {W0 W : World} {v : Value} {xs : List α} (h0 : Z0 (d.V e W0 base ok v xs)) (s : d.V e W0 base ok v xs → d.V e W base ok v xs := by intro h_; (with_reducible repeat (first | apply Kd.V_alloc | apply Kd.V_drewN | apply Kd.V_drew)); exact h_) : d.V e W base ok v xs := s h0.out
theorem fR {α : Type} {d : Kd α} {e base : Nat} {ok : Nat → Prop} {W0 W w' : World} {v : Value} {xs : List α} (h0 : Z0 (d.R e W0 base ok v xs)) (hb : Below W.heap.size W w') (s : d.R e W0 base ok v xs → d.R e W base ok v xs := by intro h_; (with_reducible repeat (first | apply Kd.R_alloc | apply Kd.R_drewN | apply Kd.R_drew)); exact h_) : Z0 (d.R e w' base ok v xs) := ⟨Kd.R_below (s h0.out) hb⟩
theorem fV {α : Type} {d : Kd α} {e base : Nat} {ok : Nat → Prop} {W0 W w' : World} {v : Value} {xs : List α} (h0 : Z0 (d.V e W0 base ok v xs)) (hb : Below W.heap.size W w') (s : d.V e W0 base ok v xs → d.V e W base ok v xs := by intro h_; (with_reducible repeat (first | apply Kd.V_alloc | apply Kd.V_drewN | apply Kd.V_drew)); exact h_) : Z0 (d.V e w' base ok v xs) := ⟨Kd.V_below (s h0.out) hb⟩
theorem fB {w W0 W w' : World} (h0 : Z0 (Below w.heap.size w W0)) (hb : Below W.heap.size W w') (s : Below w.heap.size w W := by exact bqs) : Z0 (Below w.heap.size w w') := ⟨below_step s hb⟩
theorem fK {w W0 W w' : World} {S : Nat → Prop} (h0 : Z0 (Kept w W0 S)) (hb : Below W.heap.size W w') (s : Kept w W S := by exact kqs) : Z0 (Kept w w' S) := ⟨Kept.below s hb⟩
theorem fk {W0 W w' : World} {g : Nat} {o : Obj} (h0 : Z0 (W0.heap[g]? = some o)) (hb : Below W.heap.size W w') (s : W0.heap[g]? = some o → W.heap[g]? = some o := by intro h_; (with_reducible repeat (first | refine blk_drewN ?_ _ | refine blk_drew ?_ | refine blk_alloc ?_ _)); exact h_) : Z0 (w'.heap[g]? = some o) := ⟨blk_below (s h0.out) hb⟩
theorem fE {w W0 W : World} {g : Nat} (h0 : Z0 (Below w.heap.size w W0)) (hg : g = W.heap.size) (s : Below w.heap.size w W := by exact bqs) : Z0 (w.heap.size ≤ g) := ⟨hg ▸ below_size s⟩
theorem fW {w W0 W : World} {S : Nat → Prop} {g : Nat} (h0 : Z0 (Kept w W0 S)) (hg : g = W.heap.size) (s : Kept w W S := by exact kqs) : Z0 (w.heap.size ≤ g) := ⟨hg ▸ s.1⟩
theorem fl {W0 W : World} {g g' : Nat} {o : Obj} (h0 : Z0 (W0.heap[g]? = some o)) (hg : g' = W.heap.size) (s : W0.heap[g]? = some o → W.heap[g]? = some o := by intro h_; (with_reducible repeat (first | refine blk_drewN ?_ _ | refine blk_drew ?_ | refine blk_alloc ?_ _)); exact h_) : Z0 (g ≠ g') := ⟨hg ▸ Nat.ne_of_lt (blk_lt (s h0.out))⟩
theorem fg {W0 W : World} {g g' : Nat} {o : Obj} (h0 : Z0 (W0.heap[g]? = some o)) (hg : g' = W.heap.size) (s : W0.heap[g]? = some o → W.heap[g]? = some o := by intro h_; (with_reducible repeat (first | refine blk_drewN ?_ _ | refine blk_drew ?_ | refine blk_alloc ?_ _)); exact h_) : Z0 (g' ≠ g) := ⟨hg ▸ Nat.ne_of_gt (blk_lt (s h0.out))⟩
theorem bxE {P : Program} {ops : Array Oper} {rest : List Oper} {o : Oper} {a : Act} {Q : Exit → Act → World → Prop} {W : World} (N : Tmp) (cs : Array Value) (t : TypeId)
  (h : ∀ (g : Nat), g = W.heap.size → ∀ (w1 : World), w1.heap[g]? = some (Obj.cells cs t) → Below W.heap.size W w1 → wpList P ops Q rest (a.put o.dst (Value.pointer (some ⟨g, 0, none⟩))) w1)
  (hd : o.dst = some N := by rfl) (hg : o.guard = none := by rfl) (hr : Sem.run P (execOp a.eval o) W = Result.ok (Next.value (Value.pointer (some ⟨W.heap.size, 0, none⟩))) (W.alloc (Obj.cells cs t)) := by first | (go_simp; done) | (go_simp; rfl)) : wpList P ops Q (o :: rest) a W := box_event hg hd hr h
theorem finD {p q : Prop} (h : p := by first | rfl | (simp; done) | (simp [*]; done)) (k : q := by repeat (first | exact Drawn0.refl _ | apply Drawn0.step)) : p ∧ q := ⟨h, k⟩
section
variable {α β : Type} {p : Prop} {x y : Option α} {r : α} {s : Option α} {a b : β} {i j : Int}
theorem gn [Decidable p] (h : (if p then x else none) = some r) : p ∧ x = some r := by
 by_cases c : p
 ·rw [if_pos c] at h; exact ⟨c, h⟩
 ·rw [if_neg c] at h; cases h
theorem gd [Decidable p] (h : (if p then x else none) = some r) : p ∧ decide p = true ∧ x = some r := ⟨(gn h).1, decide_eq_true (gn h).1, (gn h).2⟩
theorem gt [Decidable p] (h : (if p then x else none) = some r) : p ∧ p = True ∧ decide p = true ∧ x = some r := ⟨(gn h).1, eq_true (gn h).1, decide_eq_true (gn h).1, (gn h).2⟩
theorem jn [Decidable p] (h : (if p then x else y) = s) : p ∧ x = s ∨ ¬p ∧ y = s := by
 by_cases c : p
 ·rw [if_pos c] at h; exact .inl ⟨c, h⟩
 ·rw [if_neg c] at h; exact .inr ⟨c, h⟩
theorem jd [Decidable p] (h : (if p then x else y) = s) : p ∧ decide p = true ∧ x = s ∨ ¬p ∧ decide p = false ∧ y = s := (jn h).imp (fun c => ⟨c.1, decide_eq_true c.1, c.2⟩) fun c => ⟨c.1, decide_eq_false c.1, c.2⟩
theorem jg (h : (if i > j then x else y) = s) : i > j ∧ decide (j < i) = true ∧ x = s ∨ ¬i > j ∧ decide (j < i) = false ∧ y = s := jd h
theorem jh (h : (if i ≥ j then x else y) = s) : i ≥ j ∧ decide (j ≤ i) = true ∧ x = s ∨ ¬i ≥ j ∧ decide (j ≤ i) = false ∧ y = s := jd h
theorem je [BEq β] [LawfulBEq β] [Decidable (a = b)] (h : (if a = b then x else y) = s) : a = b ∧ (a == b) = true ∧ (a != b) = false ∧ x = s ∨ ¬a = b ∧ (a == b) = false ∧ (a != b) = true ∧ y = s := (jn h).imp (fun c => ⟨c.1, beq_iff_eq.mpr c.1, bne_eq_false_iff_eq.mpr c.1, c.2⟩) fun c => ⟨c.1, beq_eq_false_iff_ne.mpr c.1, bne_iff_ne.mpr c.1, c.2⟩
theorem fQ [BEq β] [LawfulBEq β] [Decidable (a = b)] (h : (if a = b then none else y) = some r) : ¬a = b ∧ (a == b) = false ∧ (a != b) = true ∧ y = some r := (je h).elim (fun c => nomatch c.2.2.2) id
end
theorem yb {α β : Type} {e : α} {f : α → Option β} {r : Option β} (h : (some e).bind f = r) : ∃ y, Z0 (y = e) ∧ f y = r := ⟨e, ⟨rfl⟩, h⟩
theorem cq {α : Type} {k : Kd α} {w0 W : World} {A : Option Addr} {n : Nat} {xs : List α} (h : k.C w0 A n xs) (s : k.C w0 A n xs → k.C W A n xs := by intro h_; repeat (first | exact h_ | (with_reducible refine Kd.C_alloc ?_ _) | (with_reducible refine Kd.C_drewN ?_ _) | (with_reducible refine Kd.C_drew ?_))) : k.C W A n xs := s h
theorem hq {W0 W : World} {g : Nat} {o : Obj} (h0 : Z0 (W0.heap[g]? = some o)) (s : W0.heap[g]? = some o → W.heap[g]? = some o := by intro h_; (with_reducible repeat (first | refine blk_drewN ?_ _ | refine blk_drew ?_ | refine blk_alloc ?_ _)); exact h_) : W.heap[g]? = some o := s h0.out
theorem fN {α : Type} {d : Kd α} {e : Nat} {ok : Nat → Prop} {w W w' : World} {v : Value} {xs : List α} (h : d.R e w' W.heap.size ok v xs) (s : Below w.heap.size w W := by exact bqs) : Z0 (d.R e w' w.heap.size ok v xs) := ⟨Kd.R_lower h (below_size s)⟩
theorem od {P : Prop} [Decidable P] (h : decide P = true := by first | (with_reducible assumption) | assumption) : P := of_decide_eq_true h
theorem fe {p : Prop} (h : p := by first | rfl | (simp [errW_none, errW_some] <;> rfl) | (simp [*, errW_none, errW_some] <;> rfl)) : p := h
theorem finE {p q : Prop} (h : p := by first | rfl | (simp [errW_none, errW_some] <;> rfl) | (simp [*, errW_none, errW_some] <;> rfl)) (k : q := by exact bqs) : p ∧ q := ⟨h, k⟩
theorem fs {p : Prop} (h : p := by first | rfl | (simp; done) | (simp [*]; done)) : p := h
section
variable {w w' : World} {A : Option Addr} {n : Nat} {k : IntKind} {xs : List Int} {ss : List ByteArray}
theorem atI (h : (Kd.int k).C w A n xs) (i : Int) (p : 0 ≤ i := by exact od) (q : i < n := by exact od) : ∃ ad, A = some ad ∧ w.cell? (ad.add i.toNat) = some (.int k (rd xs i)) ∧ (0 ≤ i) = True ∧ (i < n) = True :=
 let ⟨ad, h1, h2⟩ := Kd.at_int h i p q; ⟨ad, h1, h2, eq_true p, eq_true q⟩
theorem atB (HB : Z0 (Below w.heap.size w w')) (h : (Kd.int k).C w A n xs) (i : Int) (p : 0 ≤ i := by exact od) (q : i < n := by exact od) : ∃ ad, A = some ad ∧ w'.cell? (ad.add i.toNat) = some (.int k (rd xs i)) ∧ (0 ≤ i) = True ∧ (i < n) = True :=
 let ⟨ad, h1, h2⟩ := Kd.at_int h i p q; ⟨ad, h1, (HB.out.cell (World.block_lt_of_cell? w _ h2)).trans h2, eq_true p, eq_true q⟩
theorem asI (h : Kd.string.C w A n ss) (i : Int) (p : 0 ≤ i := by exact od) (q : i < n := by exact od) : ∃ ad, A = some ad ∧ w.cell? (ad.add i.toNat) = some (.string (rdOf ByteArray.empty ss i)) ∧ (0 ≤ i) = True ∧ (i < n) = True :=
 let ⟨ad, h1, h2⟩ := Kd.at_string h i p q; ⟨ad, h1, h2, eq_true p, eq_true q⟩
theorem btA (a : ByteArray) (i : Int) (p : 0 ≤ i := by exact od) (q : i < (a.size : Int) := by exact od) : (∀ h : i.toNat < a.size, ((a[i.toNat]'h).toNat : Int) = bt a i) ∧ (0 ≤ i) = True ∧ (i < (a.size : Int)) = True := ⟨bt_at a i, eq_true p, eq_true q⟩
theorem b2 {g : Nat} {t : TypeId} {c d : Value} (h : Z0 (w.heap[g]? = some (.cells #[c, d] t (0, 0)))) : w.cell? ⟨g, 0, none⟩ = some c ∧ w.cell? ⟨g, 1, none⟩ = some d ∧ w.frozen? ⟨g, 0, none⟩ = false ∧ w.frozen? ⟨g, 1, none⟩ = false :=
 ⟨(blk_cell h.out 0).trans rfl, (blk_cell h.out 1).trans rfl, blk_frozen h.out 0, blk_frozen h.out 1⟩
theorem b4 {g : Nat} {t : TypeId} {c d e f : Value} (h : Z0 (w.heap[g]? = some (.cells #[c, d, e, f] t (0, 0)))) : w.cell? ⟨g, 0, none⟩ = some c ∧ w.cell? ⟨g, 1, none⟩ = some d ∧ w.cell? ⟨g, 2, none⟩ = some e ∧ w.cell? ⟨g, 3, none⟩ = some f ∧ w.frozen? ⟨g, 0, none⟩ = false ∧ w.frozen? ⟨g, 1, none⟩ = false ∧ w.frozen? ⟨g, 2, none⟩ = false ∧ w.frozen? ⟨g, 3, none⟩ = false :=
 ⟨(blk_cell h.out 0).trans rfl, (blk_cell h.out 1).trans rfl, (blk_cell h.out 2).trans rfl, (blk_cell h.out 3).trans rfl, blk_frozen h.out 0, blk_frozen h.out 1, blk_frozen h.out 2, blk_frozen h.out 3⟩
end
section
variable {P : Program} {ops : Array Oper} {Q : Exit → Act → World → Prop} {rest : List Oper} {o : Oper} {a : Act} {W : World}
theorem gc_ (f : FuncId) {ars : Array Operand} {ts : Array TypeId} (_ho : o.op = .call { callee := .value (.func f), args := ars, argTypes := ts }) (h : wpList P ops Q (o :: rest) a W) : wpList P ops Q (o :: rest) a W := h
theorem gd_ (N : Tmp) (_hN : o.dst = some N) (h : wpList P ops Q (o :: rest) a W) : wpList P ops Q (o :: rest) a W := h
theorem gL {f : FuncId} {fn : Func} {ars : Array Operand} {ts : Array TypeId} {args : Array Value} {R : Ending → World → Prop} (N : Tmp) (hf : P.funcs[f]? = some fn)
  (hc : Calls P f args W R) (K : ∀ e w', R e w' → ∃ v, e = .returned v ∧ wpList P ops Q rest (a.put (some N) v) w')
  (hd : o.dst = some N := by rfl) (hg : o.guard = none := by rfl) (hname : (fn.name == "runtime.NumGoroutine") = false := by kernel_rfl) (hb : fn.body.isSome = true := by rfl) (hop : o.op = .call { callee := .value (.func f), args := ars, argTypes := ts } := by rfl)
  (hargs : ars.map a.eval = args := by (try simp only [List.map_toArray, List.map_cons, List.map_nil]); first | done | rfl | (simp only [List.length_drop, List.length_take]; rfl)) : wpList P ops Q (o :: rest) a W :=
 goesL_ (some N) hd hg hf hname hb args hop hargs (hc.mono K)
end
end Go.Proofs.YtinpcbjjnlpblaaGreatDoor
namespace Go.Proofs
set_option linter.unusedVariables false
open Go.Shelf
def Tryz.lays169_ren : Go.Shelf.Ren := ⟨fun | 169 => 101 | n => n, fun | 70 => 112 | 9 => 9 | 0 => 0 | 72 => 114 | 37 => 55 | 127 => 149 | 3 => 3 | 5 => 5 | n => n, fun | n => n⟩
theorem Tryz.lays169 : Go.Proofs.Lays.n169 Tryz.prog Tryz.lays169_ren := {
 mixed := by kernel_rfl
 f169 := Tryz.func101.trans (congrArg some (by kernel_rfl))
 t0 := Tryz.underlying0
 a0 := Tryz.isAgg0
 z0 := Tryz.sizeOf0
 v0 := Tryz.zeroValue0
 t3 := Tryz.underlying3
 a3 := Tryz.isAgg3
 z3 := Tryz.sizeOf3
 v3 := Tryz.zeroValue3
 t9 := Tryz.underlying9
 a9 := Tryz.isAgg9
 z9 := Tryz.sizeOf9
 v9 := Tryz.zeroValue9
 t37 := Tryz.underlying55
 a37 := Tryz.isAgg55
 z37 := Tryz.sizeOf55
 v37 := Tryz.zeroValue55
 t70 := Tryz.underlying112
 a70 := Tryz.isAgg112
 z70 := Tryz.sizeOf112
 v70 := Tryz.zeroValue112
 t72 := Tryz.underlying114
 a72 := Tryz.isAgg114
 z72 := Tryz.sizeOf114
 v72 := Tryz.zeroValue114
 t127 := Tryz.underlying149
 a127 := Tryz.isAgg149
 z127 := Tryz.sizeOf149
 v127 := Tryz.zeroValue149 }
theorem Tryz.Builder_Extra_169 : Builder.Extra Tryz.prog Tryz.lays169_ren := {
 sizeBuilder := by kernel_rfl
 liesBuilder := by kernel_rfl
 t5 := Tryz.underlying5
 a5 := Tryz.isAgg5
 z5 := Tryz.sizeOf5
 v5 := Tryz.zeroValue5
 infoByte := by kernel_rfl
 cellsByte := by kernel_rfl
 sizeByte := by kernel_rfl
 neB5 := by decide }
def Tryz.lays160_ren : Go.Shelf.Ren := ⟨fun | 160 => 142 | 232 => 160 | 231 => 159 | 227 => 161 | 234 => 163 | 233 => 162 | 236 => 165 | 235 => 164 | 228 => 174 | 271 => 177 | 151 => 176 | 197 => 175 | 120 => 190 | 152 => 189 | 260 => 188 | 137 => 90 | 119 => 196 | 224 => 148 | 225 => 147 | 217 => 124 | 266 => 146 | n => n, fun | 9 => 9 | 4 => 4 | 3 => 3 | 5 => 5 | 117 => 167 | 116 => 166 | 0 => 0 | 124 => 170 | 21 => 21 | 105 => 180 | 46 => 145 | 119 => 201 | 139 => 204 | 138 => 203 | n => n, fun | 3 => 4 | 4 => 5 | n => n⟩
theorem Tryz.lays160 : Go.Proofs.Lays.n160 Tryz.prog Tryz.lays160_ren := {
 mixed := by kernel_rfl
 f119 := Tryz.func196.trans (congrArg some (by kernel_rfl))
 f120 := Tryz.func190.trans (congrArg some (by kernel_rfl))
 f137 := Tryz.func90.trans (congrArg some (by kernel_rfl))
 f151 := Tryz.func176.trans (congrArg some (by kernel_rfl))
 f152 := Tryz.func189.trans (congrArg some (by kernel_rfl))
 f160 := Tryz.func142.trans (congrArg some (by kernel_rfl))
 f197 := Tryz.func175.trans (congrArg some (by kernel_rfl))
 f217 := Tryz.func124.trans (congrArg some (by kernel_rfl))
 f224 := Tryz.func148.trans (congrArg some (by kernel_rfl))
 f225 := Tryz.func147.trans (congrArg some (by kernel_rfl))
 f227 := Tryz.func161.trans (congrArg some (by kernel_rfl))
 f228 := Tryz.func174.trans (congrArg some (by kernel_rfl))
 f231 := Tryz.func159.trans (congrArg some (by kernel_rfl))
 f232 := Tryz.func160.trans (congrArg some (by kernel_rfl))
 f233 := Tryz.func162.trans (congrArg some (by kernel_rfl))
 f234 := Tryz.func163.trans (congrArg some (by kernel_rfl))
 f235 := Tryz.func164.trans (congrArg some (by kernel_rfl))
 f236 := Tryz.func165.trans (congrArg some (by kernel_rfl))
 f260 := Tryz.func188.trans (congrArg some (by kernel_rfl))
 f266 := Tryz.func146.trans (congrArg some (by kernel_rfl))
 f271 := Tryz.func177.trans (congrArg some (by kernel_rfl))
 t0 := Tryz.underlying0
 a0 := Tryz.isAgg0
 z0 := Tryz.sizeOf0
 v0 := Tryz.zeroValue0
 t3 := Tryz.underlying3
 a3 := Tryz.isAgg3
 z3 := Tryz.sizeOf3
 v3 := Tryz.zeroValue3
 t4 := Tryz.underlying4
 a4 := Tryz.isAgg4
 z4 := Tryz.sizeOf4
 v4 := Tryz.zeroValue4
 t5 := Tryz.underlying5
 a5 := Tryz.isAgg5
 z5 := Tryz.sizeOf5
 v5 := Tryz.zeroValue5
 t9 := Tryz.underlying9
 a9 := Tryz.isAgg9
 z9 := Tryz.sizeOf9
 v9 := Tryz.zeroValue9
 t21 := Tryz.underlying21
 a21 := Tryz.isAgg21
 z21 := Tryz.sizeOf21
 v21 := Tryz.zeroValue21
 t46 := Tryz.underlying145
 a46 := Tryz.isAgg145
 z46 := Tryz.sizeOf145
 v46 := Tryz.zeroValue145
 t105 := Tryz.underlying180
 a105 := Tryz.isAgg180
 z105 := Tryz.sizeOf180
 v105 := Tryz.zeroValue180
 t116 := Tryz.underlying166
 a116 := Tryz.isAgg166
 z116 := Tryz.sizeOf166
 t117 := Tryz.underlying167
 a117 := Tryz.isAgg167
 z117 := Tryz.sizeOf167
 v117 := Tryz.zeroValue167
 t119 := Tryz.underlying201
 a119 := Tryz.isAgg201
 z119 := Tryz.sizeOf201
 t124 := Tryz.underlying170
 a124 := Tryz.isAgg170
 z124 := Tryz.sizeOf170
 v124 := Tryz.zeroValue170
 t138 := Tryz.underlying203
 a138 := Tryz.isAgg203
 z138 := Tryz.sizeOf203
 v138 := Tryz.zeroValue203
 t139 := Tryz.underlying204
 a139 := Tryz.isAgg204
 z139 := Tryz.sizeOf204
 v139 := Tryz.zeroValue204
 g3 := by kernel_rfl
 g4 := by kernel_rfl }
def Tryz.lays137_ren : Go.Shelf.Ren := ⟨fun | 137 => 90 | 217 => 124 | 266 => 146 | n => n, fun | 9 => 9 | 5 => 5 | 3 => 3 | n => n, fun | n => n⟩
theorem Tryz.lays137 : Go.Proofs.Lays.n137 Tryz.prog Tryz.lays137_ren := {
 mixed := by kernel_rfl
 f137 := Tryz.func90.trans (congrArg some (by kernel_rfl))
 f217 := Tryz.func124.trans (congrArg some (by kernel_rfl))
 f266 := Tryz.func146.trans (congrArg some (by kernel_rfl))
 t3 := Tryz.underlying3
 a3 := Tryz.isAgg3
 z3 := Tryz.sizeOf3
 v3 := Tryz.zeroValue3
 t5 := Tryz.underlying5
 a5 := Tryz.isAgg5
 z5 := Tryz.sizeOf5
 v5 := Tryz.zeroValue5
 t9 := Tryz.underlying9
 a9 := Tryz.isAgg9
 z9 := Tryz.sizeOf9
 v9 := Tryz.zeroValue9 }
open Go.RowKit in
theorem Tryz.strings_IndexByte (s : ByteArray) (c : Int) (w : World) :
  Calls Tryz.prog 90 #[.string s, .int .u8 c] w fun e w' => e = .returned (.int .i64 (Lib.indexByte s.data.toList c.toNat.toUInt8)) ∧ w' = w := Any.strings_IndexByte Tryz.lays137 s c w
def Tryz.lays103_ren : Go.Shelf.Ren := ⟨fun | 103 => 128 | 210 => 150 | 206 => 143 | n => n, fun | 9 => 9 | 4 => 4 | 24 => 138 | 3 => 3 | n => n, fun | n => n⟩
theorem Tryz.lays103 : Go.Proofs.Lays.n103 Tryz.prog Tryz.lays103_ren := {
 mixed := by kernel_rfl
 f103 := Tryz.func128.trans (congrArg some (by kernel_rfl))
 f206 := Tryz.func143.trans (congrArg some (by kernel_rfl))
 f210 := Tryz.func150.trans (congrArg some (by kernel_rfl))
 t3 := Tryz.underlying3
 a3 := Tryz.isAgg3
 z3 := Tryz.sizeOf3
 v3 := Tryz.zeroValue3
 t4 := Tryz.underlying4
 a4 := Tryz.isAgg4
 z4 := Tryz.sizeOf4
 v4 := Tryz.zeroValue4
 t9 := Tryz.underlying9
 a9 := Tryz.isAgg9
 z9 := Tryz.sizeOf9
 v9 := Tryz.zeroValue9
 t24 := Tryz.underlying138
 a24 := Tryz.isAgg138
 z24 := Tryz.sizeOf138
 v24 := Tryz.zeroValue138 }
open Go.RowKit in
theorem Tryz.strings_CutPrefix (s p : ByteArray) (w : World) :
  Calls Tryz.prog 128 #[.string s, .string p] w fun e w' => e = .returned (.tuple #[.string ⟨(Lib.trimPrefix s.data.toList p.data.toList).toArray⟩, .bool (Lib.hasPrefix s.data.toList p.data.toList)]) ∧ w' = w := Any.strings_CutPrefix Tryz.lays103 s p w
open Go.RowKit in
theorem Tryz.Builder_String_any_k (B b : Nat) (l : List UInt8) (w : World) (h : Lib.IsBuilderF 114 5 B b (Lib.byteCells l) w) (hBw : B ≤ w.heap.size) :
  Calls Tryz.prog 101 #[.pointer (some ⟨b, 0, none⟩)] w fun e w' => e = .returned (.string ⟨l.toArray⟩) ∧ (Lib.IsBuilderF 114 5 B b (Lib.byteCells l) w' ∧ Below B w w' ∧ Lib.OthersKept 5 (some b) w w') := Any.Builder_String_any_k Tryz.lays169 Tryz.Builder_Extra_169 B b l w h hBw
def Tryz.lays172_ren : Go.Shelf.Ren := ⟨fun | 172 => 153 | 244 => 167 | 245 => 168 | 247 => 178 | 279 => 179 | 280 => 180 | 281 => 181 | 282 => 182 | 287 => 191 | 316 => 192 | 171 => 98 | 205 => 193 | 321 => 197 | 322 => 198 | 243 => 133 | 246 => 155 | 283 => 169 | 284 => 170 | 285 => 171 | 286 => 172 | 129 => 184 | 317 => 183 | 318 => 185 | 319 => 186 | 320 => 187 | 337 => 194 | 338 => 195 | n => n, fun | 9 => 9 | 3 => 3 | 75 => 116 | 76 => 122 | 4 => 4 | 5 => 5 | 167 => 183 | 37 => 55 | 0 => 0 | 85 => 184 | 2 => 2 | 168 => 186 | 53 => 161 | 175 => 194 | 46 => 145 | 210 => 198 | 127 => 149 | 145 => 210 | 143 => 208 | 21 => 21 | 171 => 173 | 173 => 176 | 212 => 190 | 51 => 158 | 20 => 20 | 213 => 191 | 232 => 211 | 233 => 212 | 80 => 125 | n => n, fun | 15 => 2 | 16 => 3 | 17 => 1 | 18 => 6 | 19 => 7 | n => n⟩
theorem Tryz.lays172 : Go.Proofs.Lays.n172 Tryz.prog Tryz.lays172_ren := {
 mixed := by kernel_rfl
 f129 := Tryz.func184.trans (congrArg some (by kernel_rfl))
 f171 := Tryz.func98.trans (congrArg some (by kernel_rfl))
 f172 := Tryz.func153.trans (congrArg some (by kernel_rfl))
 f205 := Tryz.func193.trans (congrArg some (by kernel_rfl))
 f243 := Tryz.func133.trans (congrArg some (by kernel_rfl))
 f244 := Tryz.func167.trans (congrArg some (by kernel_rfl))
 f245 := Tryz.func168.trans (congrArg some (by kernel_rfl))
 f246 := Tryz.func155.trans (congrArg some (by kernel_rfl))
 f247 := Tryz.func178.trans (congrArg some (by kernel_rfl))
 f279 := Tryz.func179.trans (congrArg some (by kernel_rfl))
 f280 := Tryz.func180.trans (congrArg some (by kernel_rfl))
 f281 := Tryz.func181.trans (congrArg some (by kernel_rfl))
 f282 := Tryz.func182.trans (congrArg some (by kernel_rfl))
 f283 := Tryz.func169.trans (congrArg some (by kernel_rfl))
 f284 := Tryz.func170.trans (congrArg some (by kernel_rfl))
 f285 := Tryz.func171.trans (congrArg some (by kernel_rfl))
 f286 := Tryz.func172.trans (congrArg some (by kernel_rfl))
 f287 := Tryz.func191.trans (congrArg some (by kernel_rfl))
 f316 := Tryz.func192.trans (congrArg some (by kernel_rfl))
 f317 := Tryz.func183.trans (congrArg some (by kernel_rfl))
 f318 := Tryz.func185.trans (congrArg some (by kernel_rfl))
 f319 := Tryz.func186.trans (congrArg some (by kernel_rfl))
 f320 := Tryz.func187.trans (congrArg some (by kernel_rfl))
 f321 := Tryz.func197.trans (congrArg some (by kernel_rfl))
 f322 := Tryz.func198.trans (congrArg some (by kernel_rfl))
 f337 := Tryz.func194.trans (congrArg some (by kernel_rfl))
 f338 := Tryz.func195.trans (congrArg some (by kernel_rfl))
 t0 := Tryz.underlying0
 a0 := Tryz.isAgg0
 z0 := Tryz.sizeOf0
 v0 := Tryz.zeroValue0
 t2 := Tryz.underlying2
 a2 := Tryz.isAgg2
 z2 := Tryz.sizeOf2
 v2 := Tryz.zeroValue2
 t3 := Tryz.underlying3
 a3 := Tryz.isAgg3
 z3 := Tryz.sizeOf3
 v3 := Tryz.zeroValue3
 t4 := Tryz.underlying4
 a4 := Tryz.isAgg4
 z4 := Tryz.sizeOf4
 v4 := Tryz.zeroValue4
 t5 := Tryz.underlying5
 a5 := Tryz.isAgg5
 z5 := Tryz.sizeOf5
 v5 := Tryz.zeroValue5
 t9 := Tryz.underlying9
 a9 := Tryz.isAgg9
 z9 := Tryz.sizeOf9
 v9 := Tryz.zeroValue9
 t20 := Tryz.underlying20
 a20 := Tryz.isAgg20
 z20 := Tryz.sizeOf20
 v20 := Tryz.zeroValue20
 t21 := Tryz.underlying21
 a21 := Tryz.isAgg21
 z21 := Tryz.sizeOf21
 v21 := Tryz.zeroValue21
 t37 := Tryz.underlying55
 a37 := Tryz.isAgg55
 z37 := Tryz.sizeOf55
 v37 := Tryz.zeroValue55
 t46 := Tryz.underlying145
 a46 := Tryz.isAgg145
 z46 := Tryz.sizeOf145
 v46 := Tryz.zeroValue145
 t51 := Tryz.underlying158
 a51 := Tryz.isAgg158
 z51 := Tryz.sizeOf158
 v51 := Tryz.zeroValue158
 t53 := Tryz.underlying161
 a53 := Tryz.isAgg161
 z53 := Tryz.sizeOf161
 v53 := Tryz.zeroValue161
 t75 := Tryz.underlying116
 a75 := Tryz.isAgg116
 z75 := Tryz.sizeOf116
 v75 := Tryz.zeroValue116
 t76 := Tryz.underlying122
 a76 := Tryz.isAgg122
 z76 := Tryz.sizeOf122
 v76 := Tryz.zeroValue122
 t85 := Tryz.underlying184
 a85 := Tryz.isAgg184
 z85 := Tryz.sizeOf184
 v85 := Tryz.zeroValue184
 t127 := Tryz.underlying149
 a127 := Tryz.isAgg149
 z127 := Tryz.sizeOf149
 v127 := Tryz.zeroValue149
 t143 := Tryz.underlying208
 a143 := Tryz.isAgg208
 z143 := Tryz.sizeOf208
 v143 := Tryz.zeroValue208
 t145 := Tryz.underlying210
 a145 := Tryz.isAgg210
 z145 := Tryz.sizeOf210
 v145 := Tryz.zeroValue210
 t167 := Tryz.underlying183
 a167 := Tryz.isAgg183
 z167 := Tryz.sizeOf183
 v167 := Tryz.zeroValue183
 t168 := Tryz.underlying186
 a168 := Tryz.isAgg186
 z168 := Tryz.sizeOf186
 v168 := Tryz.zeroValue186
 t171 := Tryz.underlying173
 a171 := Tryz.isAgg173
 z171 := Tryz.sizeOf173
 v171 := Tryz.zeroValue173
 t173 := Tryz.underlying176
 a173 := Tryz.isAgg176
 z173 := Tryz.sizeOf176
 v173 := Tryz.zeroValue176
 t175 := Tryz.underlying194
 a175 := Tryz.isAgg194
 z175 := Tryz.sizeOf194
 v175 := Tryz.zeroValue194
 t210 := Tryz.underlying198
 a210 := Tryz.isAgg198
 z210 := Tryz.sizeOf198
 v210 := Tryz.zeroValue198
 t212 := Tryz.underlying190
 a212 := Tryz.isAgg190
 z212 := Tryz.sizeOf190
 v212 := Tryz.zeroValue190
 t213 := Tryz.underlying191
 a213 := Tryz.isAgg191
 z213 := Tryz.sizeOf191
 t232 := Tryz.underlying211
 a232 := Tryz.isAgg211
 z232 := Tryz.sizeOf211
 v232 := Tryz.zeroValue211
 t233 := Tryz.underlying212
 a233 := Tryz.isAgg212
 z233 := Tryz.sizeOf212
 v233 := Tryz.zeroValue212
 g15 := by kernel_rfl
 g16 := by kernel_rfl
 g17 := by kernel_rfl
 g18 := by kernel_rfl
 g19 := by kernel_rfl }
open Go.RowKit in
theorem Tryz.strconv_Atoi (s : ByteArray) (n : Int) (hl : s.size ≤ 18) (h : Lib.atoi s.data.toList = some n) (w : World) :
  Calls Tryz.prog 153 #[.string s] w fun e w' => e = .returned (.tuple #[.int .i64 n, .nilIface]) ∧ ∃ t, w' = Lib.bytesWorld w 5 t := Any.strconv_Atoi Tryz.lays172 s n hl h w
def Tryz.laysM171_ren : Go.Shelf.Ren := ⟨fun | 171 => 98 | 243 => 133 | 246 => 155 | 283 => 169 | 284 => 170 | 285 => 171 | 286 => 172 | 129 => 184 | 317 => 183 | 318 => 185 | 319 => 186 | 320 => 187 | 337 => 194 | 338 => 195 | n => n, fun | 3 => 3 | 9 => 9 | 2 => 2 | 4 => 4 | 171 => 173 | 0 => 0 | 53 => 161 | 37 => 55 | 5 => 5 | 173 => 176 | 212 => 190 | 51 => 158 | 20 => 20 | 213 => 191 | 46 => 145 | 232 => 211 | 233 => 212 | n => n, fun | 17 => 1 | 18 => 6 | 19 => 7 | n => n⟩
theorem Tryz.laysM171 : Go.Proofs.LaysM.n171 Tryz.prog Tryz.laysM171_ren := {
 mixed := by kernel_rfl
 f129 := Tryz.func184.trans (congrArg some (by kernel_rfl))
 f171 := Tryz.func98.trans (congrArg some (by kernel_rfl))
 f243 := Tryz.func133.trans (congrArg some (by kernel_rfl))
 f246 := Tryz.func155.trans (congrArg some (by kernel_rfl))
 f283 := Tryz.func169.trans (congrArg some (by kernel_rfl))
 f284 := Tryz.func170.trans (congrArg some (by kernel_rfl))
 f285 := Tryz.func171.trans (congrArg some (by kernel_rfl))
 f286 := Tryz.func172.trans (congrArg some (by kernel_rfl))
 f317 := Tryz.func183.trans (congrArg some (by kernel_rfl))
 f318 := Tryz.func185.trans (congrArg some (by kernel_rfl))
 f319 := Tryz.func186.trans (congrArg some (by kernel_rfl))
 f320 := Tryz.func187.trans (congrArg some (by kernel_rfl))
 f337 := Tryz.func194.trans (congrArg some (by kernel_rfl))
 f338 := Tryz.func195.trans (congrArg some (by kernel_rfl))
 t0 := Tryz.underlying0
 a0 := Tryz.isAgg0
 z0 := Tryz.sizeOf0
 v0 := Tryz.zeroValue0
 t2 := Tryz.underlying2
 a2 := Tryz.isAgg2
 z2 := Tryz.sizeOf2
 v2 := Tryz.zeroValue2
 t3 := Tryz.underlying3
 a3 := Tryz.isAgg3
 z3 := Tryz.sizeOf3
 v3 := Tryz.zeroValue3
 t4 := Tryz.underlying4
 a4 := Tryz.isAgg4
 z4 := Tryz.sizeOf4
 v4 := Tryz.zeroValue4
 t5 := Tryz.underlying5
 a5 := Tryz.isAgg5
 z5 := Tryz.sizeOf5
 v5 := Tryz.zeroValue5
 t9 := Tryz.underlying9
 a9 := Tryz.isAgg9
 z9 := Tryz.sizeOf9
 v9 := Tryz.zeroValue9
 t20 := Tryz.underlying20
 a20 := Tryz.isAgg20
 z20 := Tryz.sizeOf20
 v20 := Tryz.zeroValue20
 t37 := Tryz.underlying55
 a37 := Tryz.isAgg55
 z37 := Tryz.sizeOf55
 v37 := Tryz.zeroValue55
 t46 := Tryz.underlying145
 a46 := Tryz.isAgg145
 z46 := Tryz.sizeOf145
 v46 := Tryz.zeroValue145
 t51 := Tryz.underlying158
 a51 := Tryz.isAgg158
 z51 := Tryz.sizeOf158
 v51 := Tryz.zeroValue158
 t53 := Tryz.underlying161
 a53 := Tryz.isAgg161
 z53 := Tryz.sizeOf161
 v53 := Tryz.zeroValue161
 t171 := Tryz.underlying173
 a171 := Tryz.isAgg173
 z171 := Tryz.sizeOf173
 v171 := Tryz.zeroValue173
 t173 := Tryz.underlying176
 a173 := Tryz.isAgg176
 z173 := Tryz.sizeOf176
 v173 := Tryz.zeroValue176
 t212 := Tryz.underlying190
 a212 := Tryz.isAgg190
 z212 := Tryz.sizeOf190
 v212 := Tryz.zeroValue190
 t213 := Tryz.underlying191
 a213 := Tryz.isAgg191
 z213 := Tryz.sizeOf191
 t232 := Tryz.underlying211
 a232 := Tryz.isAgg211
 z232 := Tryz.sizeOf211
 v232 := Tryz.zeroValue211
 t233 := Tryz.underlying212
 a233 := Tryz.isAgg212
 z233 := Tryz.sizeOf212
 v233 := Tryz.zeroValue212
 g17 := by kernel_rfl
 g18 := by kernel_rfl
 g19 := by kernel_rfl
 i0 := by kernel_rfl
 i2 := by kernel_rfl
 i3 := by kernel_rfl
 i4 := by kernel_rfl
 i5 := by kernel_rfl
 i9 := by kernel_rfl
 i20 := by kernel_rfl
 i37 := by kernel_rfl
 i46 := by kernel_rfl
 i51 := by kernel_rfl
 i53 := by kernel_rfl
 i171 := by kernel_rfl
 i173 := by kernel_rfl
 i212 := by kernel_rfl
 i232 := by kernel_rfl
 i233 := by kernel_rfl
 m17 := by kernel_rfl
 m18 := by kernel_rfl
 m19 := by kernel_rfl }
open Go.RowKit Go.Sort Go.Lib in
theorem Tryz.strconv_Itoa (n : Int) (h0 : -9223372036854775808 ≤ n) (h1 : n ≤ 9223372036854775807) (w : World) (htab : Lib.TabIs Tryz.prog w "internal/strconv.uint64pow10" .u64 Lib.pow10Tab) :
  Calls Tryz.prog 98 #[.int .i64 n] w fun e w' => e = .returned (.string ⟨(Lib.itoa n).toArray⟩) ∧ ∃ k os, w' = grow (w.drewN k) os := Any.strconv_Itoa Tryz.laysM171 n h0 h1 w htab
def Tryz.lays144_ren : Go.Shelf.Ren := ⟨fun | 144 => 47 | 143 => 91 | 219 => 125 | 217 => 124 | 225 => 147 | 224 => 148 | 267 => 149 | 266 => 146 | 314 => 166 | n => n, fun | 9 => 9 | 4 => 4 | 3 => 3 | 5 => 5 | 46 => 145 | 146 => 159 | 51 => 158 | n => n, fun | 1 => 0 | n => n⟩
theorem Tryz.lays144 : Go.Proofs.Lays.n144 Tryz.prog Tryz.lays144_ren := {
 mixed := by kernel_rfl
 f143 := Tryz.func91.trans (congrArg some (by kernel_rfl))
 f144 := Tryz.func47.trans (congrArg some (by kernel_rfl))
 f217 := Tryz.func124.trans (congrArg some (by kernel_rfl))
 f219 := Tryz.func125.trans (congrArg some (by kernel_rfl))
 f224 := Tryz.func148.trans (congrArg some (by kernel_rfl))
 f225 := Tryz.func147.trans (congrArg some (by kernel_rfl))
 f266 := Tryz.func146.trans (congrArg some (by kernel_rfl))
 f267 := Tryz.func149.trans (congrArg some (by kernel_rfl))
 f314 := Tryz.func166.trans (congrArg some (by kernel_rfl))
 t3 := Tryz.underlying3
 a3 := Tryz.isAgg3
 z3 := Tryz.sizeOf3
 v3 := Tryz.zeroValue3
 t4 := Tryz.underlying4
 a4 := Tryz.isAgg4
 z4 := Tryz.sizeOf4
 v4 := Tryz.zeroValue4
 t5 := Tryz.underlying5
 a5 := Tryz.isAgg5
 z5 := Tryz.sizeOf5
 v5 := Tryz.zeroValue5
 t9 := Tryz.underlying9
 a9 := Tryz.isAgg9
 z9 := Tryz.sizeOf9
 v9 := Tryz.zeroValue9
 t46 := Tryz.underlying145
 a46 := Tryz.isAgg145
 z46 := Tryz.sizeOf145
 v46 := Tryz.zeroValue145
 t51 := Tryz.underlying158
 a51 := Tryz.isAgg158
 z51 := Tryz.sizeOf158
 v51 := Tryz.zeroValue158
 t146 := Tryz.underlying159
 a146 := Tryz.isAgg159
 z146 := Tryz.sizeOf159
 v146 := Tryz.zeroValue159
 g1 := by kernel_rfl }
open Go.RowKit Go.Lib in
theorem Tryz.strings_Contains_one (s : ByteArray) (c : UInt8) (w : World) :
  Calls Tryz.prog 47 #[.string s, .string ⟨#[c]⟩] w fun e w' => e = .returned (.bool (decide (0 ≤ Lib.indexByte s.data.toList c))) ∧ w' = w := Any.strings_Contains_one Tryz.lays144 s c w
def Tryz.lays105_ren : Go.Shelf.Ren := ⟨fun | 105 => 100 | 212 => 134 | 99 => 135 | 165 => 136 | 166 => 99 | 170 => 137 | 169 => 101 | 263 => 156 | 264 => 157 | 206 => 143 | 240 => 131 | 241 => 158 | 276 => 154 | 277 => 173 | n => n, fun | 9 => 9 | 3 => 3 | 4 => 4 | 20 => 20 | 0 => 0 | 46 => 145 | 109 => 146 | 5 => 5 | 72 => 114 | 76 => 122 | 51 => 158 | 146 => 159 | 53 => 161 | 148 => 162 | 70 => 112 | 37 => 55 | 75 => 116 | 127 => 149 | 164 => 155 | 80 => 125 | n => n, fun | n => n⟩
theorem Tryz.lays105 : Go.Proofs.Lays.n105 Tryz.prog Tryz.lays105_ren := {
 mixed := by kernel_rfl
 f99 := Tryz.func135.trans (congrArg some (by kernel_rfl))
 f105 := Tryz.func100.trans (congrArg some (by kernel_rfl))
 f165 := Tryz.func136.trans (congrArg some (by kernel_rfl))
 f166 := Tryz.func99.trans (congrArg some (by kernel_rfl))
 f169 := Tryz.func101.trans (congrArg some (by kernel_rfl))
 f170 := Tryz.func137.trans (congrArg some (by kernel_rfl))
 f206 := Tryz.func143.trans (congrArg some (by kernel_rfl))
 f212 := Tryz.func134.trans (congrArg some (by kernel_rfl))
 f240 := Tryz.func131.trans (congrArg some (by kernel_rfl))
 f241 := Tryz.func158.trans (congrArg some (by kernel_rfl))
 f263 := Tryz.func156.trans (congrArg some (by kernel_rfl))
 f264 := Tryz.func157.trans (congrArg some (by kernel_rfl))
 f276 := Tryz.func154.trans (congrArg some (by kernel_rfl))
 f277 := Tryz.func173.trans (congrArg some (by kernel_rfl))
 t0 := Tryz.underlying0
 a0 := Tryz.isAgg0
 z0 := Tryz.sizeOf0
 v0 := Tryz.zeroValue0
 t3 := Tryz.underlying3
 a3 := Tryz.isAgg3
 z3 := Tryz.sizeOf3
 v3 := Tryz.zeroValue3
 t4 := Tryz.underlying4
 a4 := Tryz.isAgg4
 z4 := Tryz.sizeOf4
 v4 := Tryz.zeroValue4
 t5 := Tryz.underlying5
 a5 := Tryz.isAgg5
 z5 := Tryz.sizeOf5
 v5 := Tryz.zeroValue5
 t9 := Tryz.underlying9
 a9 := Tryz.isAgg9
 z9 := Tryz.sizeOf9
 v9 := Tryz.zeroValue9
 t20 := Tryz.underlying20
 a20 := Tryz.isAgg20
 z20 := Tryz.sizeOf20
 v20 := Tryz.zeroValue20
 t37 := Tryz.underlying55
 a37 := Tryz.isAgg55
 z37 := Tryz.sizeOf55
 v37 := Tryz.zeroValue55
 t46 := Tryz.underlying145
 a46 := Tryz.isAgg145
 z46 := Tryz.sizeOf145
 v46 := Tryz.zeroValue145
 t51 := Tryz.underlying158
 a51 := Tryz.isAgg158
 z51 := Tryz.sizeOf158
 v51 := Tryz.zeroValue158
 t53 := Tryz.underlying161
 a53 := Tryz.isAgg161
 z53 := Tryz.sizeOf161
 v53 := Tryz.zeroValue161
 t70 := Tryz.underlying112
 a70 := Tryz.isAgg112
 z70 := Tryz.sizeOf112
 v70 := Tryz.zeroValue112
 t72 := Tryz.underlying114
 a72 := Tryz.isAgg114
 z72 := Tryz.sizeOf114
 v72 := Tryz.zeroValue114
 t75 := Tryz.underlying116
 a75 := Tryz.isAgg116
 z75 := Tryz.sizeOf116
 v75 := Tryz.zeroValue116
 t76 := Tryz.underlying122
 a76 := Tryz.isAgg122
 z76 := Tryz.sizeOf122
 v76 := Tryz.zeroValue122
 t109 := Tryz.underlying146
 a109 := Tryz.isAgg146
 z109 := Tryz.sizeOf146
 v109 := Tryz.zeroValue146
 t127 := Tryz.underlying149
 a127 := Tryz.isAgg149
 z127 := Tryz.sizeOf149
 v127 := Tryz.zeroValue149
 t146 := Tryz.underlying159
 a146 := Tryz.isAgg159
 z146 := Tryz.sizeOf159
 v146 := Tryz.zeroValue159
 t148 := Tryz.underlying162
 a148 := Tryz.isAgg162
 z148 := Tryz.sizeOf162
 v148 := Tryz.zeroValue162
 t164 := Tryz.underlying155
 a164 := Tryz.isAgg155
 z164 := Tryz.sizeOf155
 v164 := Tryz.zeroValue155 }
theorem Tryz.Builder_Extra_105 : Builder.Extra Tryz.prog Tryz.lays105_ren := {
 sizeBuilder := by kernel_rfl
 liesBuilder := by kernel_rfl
 t5 := Tryz.underlying5
 a5 := Tryz.isAgg5
 z5 := Tryz.sizeOf5
 v5 := Tryz.zeroValue5
 infoByte := by kernel_rfl
 cellsByte := by kernel_rfl
 sizeByte := by kernel_rfl
 neB5 := by decide }
open Go.RowKit Go.Lib in
theorem Tryz.strings_Repeat (s : ByteArray) (c : Nat) (w : World) (hc : c ≤ 9223372036854775807) (hlen : s.size * c ≤ 140737488355328) :
  Calls Tryz.prog 100 #[.string s, .int .i64 c] w fun e w' => e = .returned (.string ⟨(Lib.repeatL s.data.toList c).toArray⟩) ∧ Below w.heap.size w w' := Any.strings_Repeat Tryz.lays105 Tryz.Builder_Extra_105 s c w hc hlen
open Go.RowKit Go.Lib in
theorem Tryz.strings_Trim_laid (s cutset : ByteArray) (w : World) (hs : s.size ≤ 9223372036854775807) (hcs : cutset.size < 4294967281) (hascii : ∀ (j : Nat) (b : UInt8), cutset.data.toList[j]? = some b → b.toNat < 128) :
  Calls Tryz.prog 142 #[.string s, .string cutset] w fun e w' => e = .returned (.string ⟨(Lib.trimS s.data.toList cutset.data.toList).toArray⟩) ∧ Below w.heap.size w w' := Any.strings_Trim_laid Tryz.lays160 (by kernel_rfl) s cutset w hs hcs hascii
end Go.Proofs
namespace Go.Proofs.YtinpcbjjnlpblaaGreatDoor
set_option linter.unusedVariables false
open Go.RowKit Go.Shelf
def LaidW (w : World) : Prop := Lib.TabIs Tryz.prog w "internal/strconv.uint64pow10" .u64 Lib.pow10Tab
theorem LaidW.below {w W : World} (h : LaidW w) (hb : Below w.heap.size w W) : LaidW W := (Lib.tabBelow_of_tabIs h).on hb |>.here
theorem strings_IndexByte.calls (a0 : ByteArray) (a1 : Int) (r : Int) (w : World) (h : strings_IndexByte.f a0 a1 = some r) :
  Calls Tryz.prog 90 #[.string a0, .int .u8 a1] w fun e w' => e = .returned (.int .i64 r) ∧ Below w.heap.size w w' := by
 obtain rfl := Option.some.inj h
 exact (Tryz.strings_IndexByte a0 a1 w).mono fun e w' h => ⟨h.1, by rw [h.2]; exact Below.refl _ _⟩
theorem strings_Contains.calls (a0 : ByteArray) (a1 : ByteArray) (r : Bool) (w : World) (h : strings_Contains.f a0 a1 = some r) :
  Calls Tryz.prog 47 #[.string a0, .string a1] w fun e w' => e = .returned (.bool r) ∧ Below w.heap.size w w' := by
 obtain ⟨⟨l⟩⟩ := a1
 unfold strings_Contains.f at h
 simp only at h
 split at h
 ·obtain rfl := Option.some.inj h
  rename_i c
  exact (Tryz.strings_Contains_one a0 c w).mono fun e w' h => ⟨h.1, by rw [h.2]; exact Below.refl _ _⟩
 cases h
theorem strings_CutPrefix.calls (a0 : ByteArray) (a1 : ByteArray) (r1 : ByteArray) (r2 : Bool) (w : World) (h : strings_CutPrefix.f a0 a1 = some (r1, r2)) :
  Calls Tryz.prog 128 #[.string a0, .string a1] w fun e w' => e = .returned (.tuple #[.string r1, .bool r2]) ∧ Below w.heap.size w w' := by
 have h2 := Option.some.inj h
 obtain ⟨rfl, rfl⟩ := Prod.mk.inj h2
 exact (Tryz.strings_CutPrefix a0 a1 w).mono fun e w' h => ⟨h.1, by rw [h.2]; exact Below.refl _ _⟩
theorem strings_Trim.calls (a0 : ByteArray) (a1 : ByteArray) (r : ByteArray) (w : World) (h : strings_Trim.f a0 a1 = some r) :
  Calls Tryz.prog 142 #[.string a0, .string a1] w fun e w' => e = .returned (.string r) ∧ Below w.heap.size w w' := by
 unfold strings_Trim.f at h
 split at h
 ·rename_i hc
  obtain rfl := Option.some.inj h
  refine Tryz.strings_Trim_laid a0 a1 w hc.1 hc.2.1 fun j b hj => ?_
  have := List.all_eq_true.1 hc.2.2 b (List.mem_of_getElem? hj)
  simpa using this
 cases h
theorem decDigits_txtN : ∀ n : Nat, Lib.decDigits n = Sv.txtN n := by
 intro n
 induction n using Nat.strongRecOn with
 | ind n ih =>
  rw [Lib.decDigits]
  by_cases h : n < 10
  ·rw [dif_pos h]
   unfold Sv.txtN
   by_cases h0 : n = 0
   ·subst h0; rfl
   rw [if_neg h0, Sv.dg_pos (by decide) (by omega), Nat.mod_eq_of_lt h, Nat.div_eq_of_lt h, Sv.dg_zero]
   simp [Sv.dch]
  rw [dif_neg h, ih (n / 10) (by omega)]
  have h0 : n ≠ 0 := by omega
  have h1 : n / 10 ≠ 0 := by omega
  unfold Sv.txtN
  rw [if_neg h0, if_neg h1, Sv.dg_pos (b := 10) (n := n) (by decide) (by omega)]
  simp [Sv.dch]
  congr 1
theorem itoa_txtL (n : Int) : Lib.itoa n = Sv.txtL n := by
 unfold Lib.itoa Sv.txtL
 split
 ·rw [decDigits_txtN]
 rename_i h
 rw [decDigits_txtN]
 congr 1
 omega
theorem strconv_Itoa.calls (a0 : Int) (r : ByteArray) (w : World) (hL : LaidW w) (h : strconv_Itoa.f a0 = some r) :
  Calls Tryz.prog 98 #[.int .i64 a0] w fun e w' => e = .returned (.string r) ∧ Below w.heap.size w w' := by
 unfold strconv_Itoa.f at h
 split at h
 ·rename_i hc
  obtain rfl := Option.some.inj h
  refine (Tryz.strconv_Itoa a0 hc.1 hc.2 w hL).mono fun e w' h => ⟨?_, ?_⟩
  ·rw [h.1, itoa_txtL]; rfl
  obtain ⟨k, os, rfl⟩ := h.2
  exact Lib.below_grow _ _ (Nat.le_refl _) _ _
 cases h
end Go.Proofs.YtinpcbjjnlpblaaGreatDoor
namespace Go.Proofs.YtinpcbjjnlpblaaGreatDoor.PA
set_option linter.unusedVariables false
open Go.RowKit Go.Proofs.WWords Go.Proofs.WLast Go.Proofs.WMore
attribute [local go_sem] max2_int min2_int max_two min_two max_three min_three max_four min_four
set_option linter.unusedSimpArgs false
def errW : Option Int → Value
  | none => .nilIface
  | some c => .iface 0 (.int .i64 c)
theorem errW_none : errW none = .nilIface := rfl
theorem errW_some (c : Int) : errW (some c) = .iface 0 (.int .i64 c) := rfl
theorem info3 : (Tryz.prog.info? 3).map (fun i => (i.zero, i.size, i.bytes)) = some (some (.int .i64 0), 1, 8) := by kernel_rfl
theorem info5 : (Tryz.prog.info? 5).map (fun i => (i.zero, i.size, i.bytes)) = some (some (.int .u8 0), 1, 1) := by kernel_rfl
set_option linter.unusedVariables false
class Ctr (f : FuncId) (T : outParam Prop) : Prop where
  pf : T
  hf : ∃ fn, Tryz.prog.funcs[f]? = some fn ∧ (fn.name == "runtime.NumGoroutine") = false ∧ fn.body.isSome = true
theorem drB {f : FuncId} {args : Array Value} {w : World} {x : Ending} (h : Calls Tryz.prog f args w fun e w' => e = x ∧ Drawn0 w w') : Calls Tryz.prog f args w fun e w' => e = x ∧ Below w.heap.size w w' :=
  h.mono fun _ _ h => ⟨h.1, h.2.below⟩
section
variable {ops : Array Oper} {Q : Exit → Act → World → Prop} {rest : List Oper} {o : Oper} {a : Act} {W : World}
theorem cG {f : FuncId} {ars : Array Operand} {ts : Array TypeId} {args : Array Value} {v : Value} {N : Option Tmp} {T : Prop}
  (hop : o.op = .call { callee := .value (.func f), args := ars, argTypes := ts }) [c : Ctr f T]
  (K : ∀ w', Below W.heap.size W w' → wpList Tryz.prog ops Q rest (a.put N v) w')
  (hd : o.dst = N := by rfl) (hg : o.guard = none := by rfl)
  (hargs : ars.map a.eval = args := by (try simp only [List.map_toArray, List.map_cons, List.map_nil]); first | done | rfl | (simp only [List.length_drop, List.length_take]; rfl))
  (hc : T → Calls Tryz.prog f args W fun e w' => e = .returned v ∧ Below W.heap.size W w' := by intro c; (first | apply c | (apply drB; apply c)); all_goals first | (with_reducible assumption) | exact Z0.out (by with_reducible assumption) | (with_reducible exact hL.below bq) | exact Eq.refl _ | omega | exact Z0.out (by assumption) | exact hL.below bq | exact of_decide_eq_true rfl | assumption) : wpList Tryz.prog ops Q (o :: rest) a W := by
  obtain ⟨fn, hf, hn, hb⟩ := c.hf
  refine goesL_ N hd hg hf hn hb args hop hargs ((hc c.pf).mono ?_)
  rintro e w' ⟨rfl, hb⟩
  exact ⟨_, rfl, K w' hb⟩
theorem cC {f : FuncId} {args : Array Value} {R : Ending → World → Prop} {v : Value} {T : Prop} [c : Ctr f T]
  (K : ∀ w', Below W.heap.size W w' → R (.returned v) w')
  (hc : T → Calls Tryz.prog f args W fun e w' => e = .returned v ∧ Below W.heap.size W w' := by intro c; (first | apply c | (apply drB; apply c)); all_goals first | (with_reducible assumption) | exact Z0.out (by with_reducible assumption) | (with_reducible exact hL.below bq) | exact Eq.refl _ | omega | exact Z0.out (by assumption) | exact hL.below bq | exact of_decide_eq_true rfl | assumption) : Calls Tryz.prog f args W R := by
  refine (hc c.pf).mono ?_
  rintro e w' ⟨rfl, hb⟩
  exact K w' hb
theorem cX {f : FuncId} {ars : Array Operand} {ts : Array TypeId} {args : Array Value} {N : Option Tmp} {T : Prop} {R : Ending → World → Prop}
  (hop : o.op = .call { callee := .value (.func f), args := ars, argTypes := ts }) [c : Ctr f T]
  (K : ∀ e w', R e w' → ∃ v, e = .returned v ∧ wpList Tryz.prog ops Q rest (a.put N v) w')
  (hd : o.dst = N := by rfl) (hg : o.guard = none := by rfl)
  (hargs : ars.map a.eval = args := by (try simp only [List.map_toArray, List.map_cons, List.map_nil]); first | done | rfl | (simp only [List.length_drop, List.length_take]; rfl))
  (hc : T → Calls Tryz.prog f args W R := by intro c; apply c; all_goals first | (with_reducible assumption) | exact Z0.out (by with_reducible assumption) | (with_reducible exact hL.below bq) | exact Kd.C_below (by assumption) (by assumption) | omega) : wpList Tryz.prog ops Q (o :: rest) a W := by
  obtain ⟨fn, hf, hn, hb⟩ := c.hf
  exact goesL_ N hd hg hf hn hb args hop hargs ((hc c.pf).mono K)
theorem al2 {p : World → Prop} {x y : Obj} (h : ∀ W', Below W.heap.size W W' → Z0 (W'.heap[W.heap.size]? = some x) → Z0 (W'.heap[W.heap.size + 1]? = some y) → p W') : p ((W.alloc x).alloc y) :=
  h _ (below_alloc (below_alloc (Below.refl _ _) _) _) ⟨blk_alloc (blk_new _ _) _⟩ ⟨by have := blk_new (W.alloc x) y; rwa [show (W.alloc x).heap.size = W.heap.size + 1 from Array.size_push ..] at this⟩
theorem atC {f : FuncId} {args : Array Value} {R : Ending → World → Prop} (h : Calls Tryz.prog f args W R) : Calls Tryz.prog f args W R := h
theorem litR {α : Type} (d : Kd α) (xs : List α) (inner : List Value) {e : TypeId} {N : Tmp} (hp : Reps (d.M W W.heap.size (fun _ => True)) d.sz xs inner)
  (K : ∀ v w', Below W.heap.size W w' → Z0 (d.R e w' W.heap.size (fun _ => True) v xs) → wpList Tryz.prog ops Q rest (a.put (some N) v) w')
  (hd : o.dst = some N := by rfl) (hg : o.guard = none := by rfl) (hl : xs.length ≤ 1000 := by simp)
  (hr : Sem.run Tryz.prog (execOp a.eval o) W = Result.ok (Next.value (.slice (some ⟨W.heap.size, 0, none⟩) xs.length xs.length)) (W.alloc (Obj.cells inner.toArray e)) := by first | (go_simp; done) | (go_simp; rfl)) : wpList Tryz.prog ops Q (o :: rest) a W := by
  refine Kd.R_lit d W.heap.size e hg hd (xs := xs) (inner := inner) (ok := fun _ => True) (okp := fun _ => True) hr hp (fun _ h => h) trivial (Below.refl _ _) (Nat.le_refl _) (by omega) ?_
  intro v w' ho hb _ _
  rw [hd]
  exact K v w' hb ⟨ho⟩
theorem apS {α : Type} (d : Kd α) (p : α) {w0 : World} {cs : List Value} {v : Value} {xs : List α} {s x : Operand} {t e : TypeId} {z : Value} {bytes : Nat} {N : Option Tmp}
  (HO : Z0 (d.R e W w0.heap.size (fun _ => True) v xs)) (HB : Z0 (Below w0.heap.size w0 W))
  (ho : o.op = .call { callee := .builtin .append, args := #[s, x], argTypes := #[t, t] }) (ht : Tryz.prog.underlying t = some (.slice e)) (hi : (Tryz.prog.info? e).map (fun i => (i.zero, i.size, i.bytes)) = some (some z, d.sz, bytes))
  (hp : d.M W w0.heap.size (fun _ => False) p cs) (hl : (xs.length + 1) * bytes ≤ 140737488355328)
  (K : ∀ v1 w1, Z0 (d.R e w1 w0.heap.size (fun _ => True) v1 (xs ++ [p])) → Z0 (Below w0.heap.size w0 w1) → wpList Tryz.prog ops Q rest (a.put N v1) w1)
  (hz : z.cells.size = d.sz := by rfl) (hs0 : 0 < d.sz := by decide) (hb0 : 0 < bytes := by decide) (hd : o.dst = N := by rfl) (hg : o.guard = none := by rfl)
  (hs : a.eval s = v := by rfl) (hx : a.eval x = .slice (some ⟨W.heap.size, 0, none⟩) 1 1 := by rfl) : wpList Tryz.prog ops Q (o :: rest) a (W.alloc (.cells cs.toArray e)) := by
  refine Kd.R_append d (w0 := w0) w0.heap.size hg s x t e z bytes ho ht hi hz hs0 hb0 v xs p cs (fun _ => True) (fun _ => False) hs hx hp (fun _ h => h.elim) (fun _ _ => trivial) HO.out HB.out (below_size HB.out) hl ?_
  intro v1 w1 h1 h2 _ _
  rw [hd]
  exact K v1 w1 ⟨h1⟩ ⟨h2⟩
end
set_option linter.unusedVariables false
set_option linter.unusedSimpArgs false
open Go.RowKit Go.Proofs.WWords Go.Proofs.WMore
theorem mi1 (j : Nat) : rAminus.f (j + 5) [1] [1] = some [] := by kernel_rfl
theorem le1 : rAless.f [1] [1] = some false := by kernel_rfl
theorem mi2 (j : Nat) : rAminus.f (j + 5) [2] [1] = some [1] := by kernel_rfl
theorem le2 : rAless.f [2] [1] = some false := by kernel_rfl
theorem mi3 (j : Nat) : rAminus.f (j + 5) [3] [1] = some [2] := by kernel_rfl
theorem le3 : rAless.f [3] [1] = some false := by kernel_rfl
theorem mi4 (j : Nat) : rAminus.f (j + 5) [4] [1] = some [3] := by kernel_rfl
theorem le4 : rAless.f [4] [1] = some false := by kernel_rfl
theorem mi5 (j : Nat) : rAminus.f (j + 5) [5] [1] = some [4] := by kernel_rfl
theorem le5 : rAless.f [5] [1] = some false := by kernel_rfl
theorem mi6 (j : Nat) : rAminus.f (j + 5) [6] [1] = some [5] := by kernel_rfl
theorem le6 : rAless.f [6] [1] = some false := by kernel_rfl
theorem mi7 (j : Nat) : rAminus.f (j + 5) [7] [1] = some [6] := by kernel_rfl
theorem le7 : rAless.f [7] [1] = some false := by kernel_rfl
theorem mi8 (j : Nat) : rAminus.f (j + 5) [8] [1] = some [7] := by kernel_rfl
theorem le8 : rAless.f [8] [1] = some false := by kernel_rfl
theorem mi9 (j : Nat) : rAminus.f (j + 5) [9] [1] = some [8] := by kernel_rfl
theorem le9 : rAless.f [9] [1] = some false := by kernel_rfl
theorem minus1 (d : Int) (h1 : 1 ≤ d) (h9 : d ≤ 9) : Ev (fun k => rAminus.f k [d] [1]) (if d = 1 then [] else [d - 1]) := by
 refine ⟨5, fun k hk => ?_⟩
 obtain ⟨j, rfl⟩ : ∃ j, k = j + 5 := ⟨k - 5, by omega⟩
 have : d = 1 ∨ d = 2 ∨ d = 3 ∨ d = 4 ∨ d = 5 ∨ d = 6 ∨ d = 7 ∨ d = 8 ∨ d = 9 := by omega
 rcases this with rfl | rfl | rfl | rfl | rfl | rfl | rfl | rfl | rfl
 · exact mi1 j
 · exact mi2 j
 · exact mi3 j
 · exact mi4 j
 · exact mi5 j
 · exact mi6 j
 · exact mi7 j
 · exact mi8 j
 · exact mi9 j
theorem less1 (d : Int) (h1 : 1 ≤ d) (h9 : d ≤ 9) : rAless.f [d] [1] = some false := by
 have : d = 1 ∨ d = 2 ∨ d = 3 ∨ d = 4 ∨ d = 5 ∨ d = 6 ∨ d = 7 ∨ d = 8 ∨ d = 9 := by omega
 rcases this with rfl | rfl | rfl | rfl | rfl | rfl | rfl | rfl | rfl
 · exact le1
 · exact le2
 · exact le3
 · exact le4
 · exact le5
 · exact le6
 · exact le7
 · exact le8
 · exact le9
theorem rest_l1 (D : List Int) (L i : Int) (r : List Int) (h : Ev (fun k => rArest.l0 k [1] [] D L (wrap64 (i + 1))) r) (n : Nat) : ∀ d : Int, d = n → n ≤ 9 → Ev (fun k => rArest.l1 k [1] (if d = 0 then [] else [d]) D L i) r := by
 induction n with
 | zero =>
  intro d hd _
  subst hd
  refine Ev.succ ?_
  simp only [rArest.l1]
  exact Ev.bs (x := true) rfl (Ev.pos rfl h)
 | succ n ih =>
  intro d hd hn
  have hd0 : d ≠ 0 := by omega
  rw [if_neg hd0]
  refine Ev.succ ?_
  simp only [rArest.l1]
  refine Ev.bs (less1 d (by omega) (by omega)) (Ev.neg (by simp) (Ev.bind (minus1 d (by omega) (by omega)) ?_))
  have := ih (d - 1) (by omega) (by omega)
  by_cases e : d = 1
  · subst e; exact this
  · rw [if_neg e]; rwa [if_neg (by omega)] at this
theorem rest1 (D : List Int) (hD : D.length ≤ 100000) (hd : ∀ x ∈ D, 0 ≤ x ∧ x ≤ 9) (j : Nat) : ∀ i : Nat, i + j = D.length → Ev (fun k => rArest.l0 k [1] [] D (D.length : Int) i) [] := by
 induction j with
 | zero =>
  intro i hi
  refine Ev.succ ?_
  simp only [rArest.l0]
  exact Ev.neg (by omega) (Ev.of rfl)
 | succ j ih =>
  intro i hi
  have hr : rd D (i : Int) = D[i] := by simp [rd, show i < D.length by omega]
  obtain ⟨h0, h9⟩ := hd D[i] (List.getElem_mem _)
  have hw : wrap64 ((i : Int) + 1) = ((i + 1 : Nat) : Int) := by unfold wrap64; omega
  refine Ev.succ ?_
  simp only [rArest.l0]
  refine Ev.pos (by omega) (Ev.pos (by omega) (Ev.pos (by omega) (Ev.neg (by simp) (Ev.succ ?_))))
  simp only [rArest.j1, hr]
  have key : Ev (fun k => rArest.l1 k [1] (if D[i] = 0 then [] else [D[i]]) D (D.length : Int) i) [] := rest_l1 D _ _ [] (by rw [hw]; exact ih (i + 1) (by omega)) D[i].toNat D[i] (by omega) (by omega)
  by_cases e : D[i] = 0
  · rw [if_pos e] at key
    rw [e]
    refine Ev.neg (by simp) (Ev.succ ?_)
    simp only [rArest.j2]
    exact key
  · rw [if_neg e] at key
    refine Ev.pos (by simp; omega) (Ev.pos (by simp) (Ev.succ ?_))
    simp only [rArest.j2]
    exact key
theorem rest_le (D : List Int) (hD : 2 ≤ D.length) : Ev (fun k => rArest.f k [1] D) [1] := by
 have hl : rAless.f [1] D = some true := by
  unfold rAless.f
  rw [if_neg (by simp; omega)]
  simp; omega
 unfold rArest.f
 refine Ev.succ ?_
 simp only [rArest.l0]
 refine Ev.pos (by simp) (Ev.pos (by decide) (Ev.pos (by simp) (Ev.neg (by simp) (Ev.succ ?_))))
 simp only [rArest.j1]
 refine Ev.pos (by decide) (Ev.pos (by simp) (Ev.succ ?_))
 simp only [rArest.j2]
 refine Ev.succ ?_
 simp only [rArest.l1]
 refine Ev.bs (x := true) (by simpa [rd] using hl) (Ev.pos rfl (Ev.succ ?_))
 simp only [rArest.l0]
 refine Ev.neg (by unfold wrap64; simp) (Ev.of (by simp [rd]))
theorem mag_l0 (X : List Int) (hX : X.length ≤ 100000) (j : Nat) : ∀ (i : Nat) (x : List Int), i + j = X.length → (∀ c ∈ X.drop i, 48 ≤ c ∧ c ≤ 57) → (x ≠ [] ∨ ∃ c l, X.drop i = c :: l ∧ c ≠ 48) → x.length ≤ i →
  Ev (fun k => rAmagnitude.l0 k x X (X.length : Int) i) (x ++ (X.drop i).map (· - 48)) := by
 induction j with
 | zero =>
  intro i x hi _ _ _
  refine Ev.succ ?_
  simp only [rAmagnitude.l0]
  rw [List.drop_eq_nil_of_le (by omega)]
  exact Ev.neg (by omega) (Ev.of (by simp))
 | succ j ih =>
  intro i x hi hc hx hl
  have hlt : i < X.length := by omega
  have hr : rd X (i : Int) = X[i] := by simp [rd, hlt]
  have hw : wrap64 ((i : Int) + 1) = ((i + 1 : Nat) : Int) := by unfold wrap64; omega
  have hd : X.drop i = X[i] :: X.drop (i + 1) := List.drop_eq_getElem_cons hlt
  have h1 := hc X[i] (by rw [hd]; exact List.mem_cons_self)
  have hm : (X[i] - 48) % 256 = X[i] - 48 := by omega
  have key : Ev (fun k => rAmagnitude.l0 k (x ++ [X[i] - 48]) X (X.length : Int) ((i + 1 : Nat) : Int)) (x ++ (X.drop i).map (· - 48)) := by
   have := ih (i + 1) (x ++ [X[i] - 48]) (by omega) (fun c hc' => hc c (by rw [hd]; exact List.mem_cons_of_mem _ hc')) (.inl (by simp)) (by simp; omega)
   rw [hd, List.map_cons]
   rwa [List.append_assoc, List.singleton_append] at this
  refine Ev.succ ?_
  simp only [rAmagnitude.l0, hr, hw, hm]
  refine Ev.pos (by omega) (Ev.pos (by omega) (Ev.pos (by omega) (Ev.neg (by omega) ?_)))
  by_cases e : X[i] = 48
  · have hx' : x ≠ [] := by
     rcases hx with h | ⟨c, l, h, h'⟩
     · exact h
     · rw [hd] at h; injection h with h2 _; exact absurd (h2 ▸ e) h'
    have : 0 < x.length := List.length_pos_iff.mpr hx'
    exact Ev.pos e (Ev.pos (by omega) (Ev.pos (by omega) key))
  · exact Ev.neg e (Ev.pos (by omega) key)
theorem mag_ev (s : ByteArray) (hs : s.size ≤ 100000) (c : Int) (l : List Int) (h : bytesOf s = c :: l) (h0 : c ≠ 48) (hd : ∀ x ∈ c :: l, 48 ≤ x ∧ x ≤ 57) : Ev (fun k => rAmagnitude.f k s) ((c - 48) :: l.map (· - 48)) := by
 have hl : (bytesOf s).length = s.size := by simp [bytesOf]
 unfold rAmagnitude.f
 refine Ev.pos (by omega) ?_
 have := mag_l0 (bytesOf s) (by omega) (bytesOf s).length 0 [] (by simp) (by rw [List.drop_zero, h]; exact hd) (.inr ⟨c, l, by rw [List.drop_zero, h], h0⟩) (by simp)
 rw [List.drop_zero] at this
 rw [h] at this ⊢
 simpa using this
theorem common_long (m : Int) (hm : 4096 < Sv.nd m) (hm' : Sv.nd m ≤ 90000) (c : Int) (l : List Int) (h : bytesOf (Sv.txt m) = c :: l) (h0 : c ≠ 48) (hl : l ≠ []) (hd : ∀ x ∈ c :: l, 48 ≤ x ∧ x ≤ 57) : Ev (fun k => rAcommon.f k (Sv.txt 1) (Sv.txt m)) false := by
 have n1 : Sv.nd 1 ≤ 1 := nd_lt10 (by decide)
 have hs : (Sv.txt m).size ≤ 100000 := by rw [Sv.txt_size]; split <;> omega
 have m1 := mag_ev (Sv.txt 1) (by rw [txt1]; decide) 49 [] (by rw [txt1]; rfl) (by decide) (by simp)
 have m2 := mag_ev (Sv.txt m) hs c l h h0 hd
 have hL : l.length + 1 = (Sv.txt m).size := by have := congrArg List.length h; simp [bytesOf] at this; omega
 have hl2 : 1 ≤ l.length := List.length_pos_iff.mpr hl
 have r1 := rest_le ((c - 48) :: l.map (· - 48)) (by simp; omega)
 have r2 : Ev (fun k => rArest.f k ((c - 48) :: l.map (· - 48)) [1]) [] := by
  unfold rArest.f
  exact rest1 _ (by simp; omega) (fun x hx => by
   have : ∃ y ∈ c :: l, y - 48 = x := List.mem_map.1 (by rw [List.map_cons]; exact hx)
   obtain ⟨y, hy, rfl⟩ := this
   have := hd y hy
   omega) (l.length + 1) 0 (by simp)
 unfold rAcommon.f
 refine Ev.bs (rat_digits 1 (by omega)) (Ev.pos (by omega) (Ev.bs (rat_digits m (by omega)) ?_))
 rw [decide_eq_false (show ¬ (Sv.nd m : Int) ≤ 4096 by omega)]
 refine Ev.succ ?_
 simp only [rAcommon.j0]
 refine Ev.neg (by simp) (Ev.bind m1 (Ev.bind m2 (Ev.succ ?_)))
 simp only [rAcommon.l0]
 refine Ev.pos (by simp) (Ev.bind r1 (Ev.succ ?_))
 simp only [rAcommon.l0]
 refine Ev.pos (by simp) (Ev.bind r2 (Ev.succ ?_))
 simp only [rAcommon.l0]
 exact Ev.neg (by simp) (Ev.pos (by simp) (Ev.pos (by simp) (Ev.of (by simp [rd]))))
def longL (n : Nat) (d : Int) : List Int := (49 :: List.replicate n 48).set n (49 + d)
theorem longL_zero (d : Int) : longL 0 d = [49 + d] := rfl
theorem longL_succ (n : Nat) (d : Int) : longL (n + 1) d = 49 :: (List.replicate (n + 1) 48).set n (49 + d) := rfl
theorem longL_dig (n : Nat) {d : Int} (h0 : 0 ≤ d) (h8 : d ≤ 8) : ∀ x ∈ longL n d, 48 ≤ x ∧ x ≤ 57 := by
 intro x hx
 rcases List.mem_or_eq_of_mem_set hx with h | rfl
 · rcases List.mem_cons.1 h with rfl | h
   · omega
   · have := List.eq_of_mem_replicate h; omega
 · omega
theorem bytes_str (xs : List Int) (h : ∀ x ∈ xs, 0 ≤ x ∧ x < 256) : bytesOf (strOfNums xs) = xs := by
 unfold bytesOf
 rw [strOfNums_data, List.map_map]
 conv => rhs; rw [← List.map_id xs]
 apply List.map_congr_left
 intro x hx
 have := h x hx
 show (((UInt8.ofNat x.toNat).toNat : Nat) : Int) = x
 rw [UInt8.toNat_ofNat_of_lt' (by show x.toNat < 256; omega)]
 omega
theorem long_txt (n : Nat) (d : Int) (h0 : 0 ≤ d) (h8 : d ≤ 8) : ∃ m : Int, 0 < m ∧ strOfNums (longL n d) = Sv.txt m ∧ Sv.nd m = n + 1 ∧ ∃ c l, bytesOf (Sv.txt m) = c :: l ∧ c ≠ 48 ∧ l.length = n ∧ ∀ x ∈ c :: l, 48 ≤ x ∧ x ≤ 57 := by
 have hd := longL_dig n h0 h8
 have hb := bytes_str (longL n d) (fun x hx => by have := hd x hx; omega)
 obtain ⟨c, l, e, hc⟩ : ∃ c l, longL n d = c :: l ∧ c ≠ 48 := by
  cases n with
  | zero => exact ⟨_, _, longL_zero d, by omega⟩
  | succ n => exact ⟨_, _, longL_succ n d, by decide⟩
 have hl : (longL n d).length = n + 1 := by simp [longL]
 have hs := strOfNums_data (longL n d)
 have hp : Sv.Pos (strOfNums (longL n d)).data.toList := by
  rw [hs]
  refine ⟨by rw [e]; simp, ?_, ?_⟩
  · rw [e]
    have := hd c (by rw [e]; exact List.mem_cons_self)
    simp only [List.map_cons, List.head?_cons, ne_eq, Option.some.injEq]
    intro h
    have h2 := congrArg UInt8.toNat h
    rw [UInt8.toNat_ofNat_of_lt' (by show c.toNat < 256; omega)] at h2
    have h3 : c.toNat = 48 := h2
    omega
  · intro x hx
    obtain ⟨y, hy, rfl⟩ := List.mem_map.1 hx
    have := hd y hy
    rw [UInt8.toNat_ofNat_of_lt' (by show y.toNat < 256; omega)]
    omega
 have hv := hp.pos
 have ht : strOfNums (longL n d) = Sv.txt (Sv.valN (strOfNums (longL n d)).data.toList) := by
  apply ba_ext
  show _ = Sv.txtL _
  unfold Sv.txtL
  rw [if_neg (by omega), show (Sv.valN (strOfNums (longL n d)).data.toList).natAbs = (Sv.valN (strOfNums (longL n d)).data.toList).toNat by omega, hp.back]
 refine ⟨_, hv, ht, ?_, c, l, by rw [← ht, hb, e], hc, by rw [e] at hl; simpa using hl, by rw [← e]; exact hd⟩
 have hz := congrArg ByteArray.size ht
 rw [strOfNums_size, hl, Sv.txt_size, if_neg (by omega)] at hz
 omega
theorem okt_int (m : Int) (h : Sv.nd m ≤ 4900) : Okt (Sv.txt m) := by
 have hs : (Sv.txt m).size ≤ 10000 := by rw [Sv.txt_size]; split <;> omega
 exact ⟨hs, .inr (.inr (rat_Check' _ (by omega) (fun n d _ _ h => by rw [hasS_txt] at h; cases h)))⟩
theorem okt_inv (m : Int) (h1 : 1 < m) (h : Sv.nd m ≤ 4900) (q : Rat) (hq : q.num = 1) (hq' : (q.den : Int) = m) (c : Int) (l : List Int) (hb : bytesOf (Sv.txt m) = c :: l) (h0 : c ≠ 48) (hd : ∀ x ∈ c :: l, 48 ≤ x ∧ x ≤ 57) : Okt (Sv.rtxt q) := by
 have n1 : Sv.nd 1 ≤ 1 := nd_lt10 (by decide)
 have hs := rtxt_size q
 have hn : ndR q = max (Sv.nd 1) (Sv.nd m) := by unfold ndR; rw [hq, hq']
 refine ⟨by omega, .inr (.inr (rat_Check' _ (by omega) fun a b ha hb' _ => ?_))⟩
 rw [topS_rtxt, hq] at ha
 rw [botS_rtxt, hq'] at hb'
 have e1 := Sv.txt_inj.1 ha
 have e2 := Sv.txt_inj.1 hb'
 subst e1 e2
 by_cases hm : Sv.nd m ≤ 4096
 · exact ⟨_, rat_common 1 m (by omega) hm, fun _ => by simp⟩
 · refine ⟨false, common_long m (by omega) (by omega) c l hb h0 ?_ hd, fun _ => by simp⟩
   rintro rfl
   have := congrArg List.length hb
   have hz : (Sv.txt m).size = Sv.nd m := by rw [Sv.txt_size, if_neg (by omega)]; omega
   simp [bytesOf] at this
   omega
set_option linter.unusedVariables false
open Go.RowKit Go.Proofs.WWords Go.Proofs.WLast Go.Proofs.WMore
attribute [local go_sem] max2_int min2_int max_two min_two max_three min_three max_four min_four
set_option linter.unusedSimpArgs false
theorem rENegative.calls (a0 : ByteArray) (r : Bool) (w : World) (h : rENegative.f a0 = some r) :
  Calls Tryz.prog 78 #[.string a0] w fun e w' => e = .returned (.bool r) ∧ Drawn0 w w' := by
 have H := h
 clear h
 unfold rENegative.f at H
 obtain ⟨c2, c2b0, H⟩ := gd H
 have c2b1 : decide (0 < a0.size) = true := decide_eq_true (by omega)
 clear c2
 obtain rfl := Option.some.inj H
 have p3 : 0 ≤ (0 : Int) := (by omega)
 have q3 : 0 < a0.size := (by have : (0 : Int) < (a0.size : Int) := od; omega)
 have hx3 : ∀ h : 0 < a0.size, ((a0[0]'h).toNat : Int) = bt a0 0 := bt_at a0 0
 clear p3
 have qi3 : (0 < (a0.size : Int)) = True := eq_true od
 replace q3 := eq_true q3
 go_enter Tryz.func78, Tryz.ntmps78
 go_wp2
 go_ret
 exact finD
theorem rEDigits.calls (a0 : ByteArray) (r : Int) (w : World) (h : rEDigits.f a0 = some r) :
  Calls Tryz.prog 72 #[.string a0] w fun e w' => e = .returned (.int .i64 r) ∧ Drawn0 w w' := by
 have H := h
 clear h
 unfold rEDigits.f at H
 obtain ⟨t438, A2, H⟩ := bnd H
 by_cases c3 : t438 = true
 ·subst c3
  have H1 : (some (wrap64 ((a0.size : Int) - 1))) = some r := by rw [if_pos rfl] at H; exact H
  clear H
  have H := H1
  clear H1
  obtain rfl := Option.some.inj H
  go_enter Tryz.func72, Tryz.ntmps72
  go_wp2_with (first | ((with_reducible refine gc_ 78 rfl ?_); refine goD (some 4) Tryz.func78 #[.string a0] (rENegative.calls a0 true _ A2.out) ?_; intro nd))
  go_ret
  exact finD
 replace c3 := Bool.eq_false_iff.mpr c3
 subst c3
 have H1 : (some (a0.size : Int)) = some r := by rw [if_neg (show ¬ (false = true) by decide)] at H; exact H
 clear H
 have H := H1
 clear H1
 obtain rfl := Option.some.inj H
 go_enter Tryz.func72, Tryz.ntmps72
 go_wp2_with (first | ((with_reducible refine gc_ 78 rfl ?_); refine goD (some 4) Tryz.func78 #[.string a0] (rENegative.calls a0 false _ A2.out) ?_; intro nd))
 go_ret
 exact finD
theorem rEForm.calls (k : Nat) (a0 : ByteArray) (r : Bool) (w : World) (h : rEForm.f k a0 = some r) :
  Calls Tryz.prog 94 #[.string a0] w fun e w' => e = .returned (.bool r) ∧ Drawn0 w w' := by
 have H := h
 clear h
 unfold rEForm.f at H
 rcases je H with ⟨-, c2b0, c2b1, H⟩ | ⟨c2, c2b0, c2b1, H⟩
 ·obtain rfl := Option.some.inj H
  go_enter Tryz.func94, Tryz.ntmps94
  go_wp2
  go_ret
  exact finD
 have HC3 := Z0.mk H
 clear H
 go_enter Tryz.func94, Tryz.ntmps94
 go_upto_region 4 with (fail)
 go_cut [14] (fun v14 wc => ∃ (kq : Nat) (x14_2 : Bool), v14 = .bool x14_2 ∧ Z0 (rEForm.j0 kq a0 0 x14_2 = some r) ∧ Z0 (kq ≤ k) ∧ Drawn0 w wc)
 case first =>
  have H := HC3.out
  clear HC3
  rcases jg H with ⟨c4, c4b0, H⟩ | ⟨c4, c4b0, H⟩
  ·have c4b1 : decide (0 < a0.size) = true := decide_eq_true (by omega)
   clear c4
   (first | rw [c4b0] | (simp only [i64_w, i32_w]; rw [c4b0]) | skip)
   obtain ⟨c5, c5b0, H⟩ := gd H
   have c5b1 : decide (0 < a0.size) = true := decide_eq_true (by omega)
   clear c5
   have H' := Z0.mk H
   clear H
   have p6 : 0 ≤ (0 : Int) := (by omega)
   have q6 : 0 < a0.size := (by have : (0 : Int) < (a0.size : Int) := od; omega)
   have hx6 : ∀ h : 0 < a0.size, ((a0[0]'h).toNat : Int) = bt a0 0 := bt_at a0 0
   clear p6
   have qi6 : (0 < (a0.size : Int)) = True := eq_true od
   replace q6 := eq_true q6
   go_wp2
   go_meet
   case rel => exact ⟨_, (((bt a0 0) == 45)), fs, H', ⟨by first | omega | exact Nat.le_refl _⟩, by repeat (first | exact Drawn0.refl _ | apply Drawn0.step)⟩
  have c4b1 : decide (0 < a0.size) = false := decide_eq_false (by omega)
  clear c4
  (first | rw [c4b0] | (simp only [i64_w, i32_w]; rw [c4b0]) | skip)
  have H' := Z0.mk H
  clear H
  go_wp2
  go_meet
  case rel => exact ⟨_, (false), fs, H', ⟨by first | omega | exact Nat.le_refl _⟩, by repeat (first | exact Drawn0.refl _ | apply Drawn0.step)⟩
 case rest =>
  clear HC3
  try clear c2
  try clear c2b0
  try clear c2b1
  try clear p2
  try clear c4
  try clear c4b0
  try clear c4b1
  try clear c5
  try clear c5b0
  try clear c5b1
  try clear p6
  try clear q6
  try clear hx6
  try clear qi6
  try clear p6
  try clear q6
  obtain ⟨kq, x14_2, rfl, HA, HJ2, ⟨mc2, rfl⟩⟩ := hcut
  cases kq with
  | zero => exact absurd HA.out (by simp [rEForm.j0])
  | succ kj2 =>
   have H := HA.out
   clear HA
   simp only [rEForm.j0] at H
   have HC7 := Z0.mk H
   clear H
   go_upto_if 14 with (fail)
   go_cut [3] (fun v3 wc => ∃ (kq : Nat) (x3_6 : Int), v3 = .int .i64 x3_6 ∧ Z0 (rEForm.j1 kq a0 x3_6 = some r) ∧ Z0 (kq ≤ kj2) ∧ Drawn0 w wc)
   case first =>
    have H := HC7.out
    clear HC7
    by_cases c8 : x14_2 = true
    ·subst c8
     have H1 : (rEForm.j1 kj2 a0 1) = some r := by rw [if_pos rfl] at H; exact H
     clear H
     have H := H1
     clear H1
     have H' := Z0.mk H
     clear H
     go_wp2
     go_meet
     case rel => exact ⟨_, (1), fs, H', ⟨by have := HJ2.out; first | omega | exact Nat.le_refl _⟩, by repeat (first | exact Drawn0.refl _ | apply Drawn0.step)⟩
    replace c8 := Bool.eq_false_iff.mpr c8
    subst c8
    have H1 : (rEForm.j1 kj2 a0 0) = some r := by rw [if_neg (show ¬ (false = true) by decide)] at H; exact H
    clear H
    have H := H1
    clear H1
    have H' := Z0.mk H
    clear H
    go_wp2
    go_meet
    case rel => exact ⟨_, (0), fs, H', ⟨by have := HJ2.out; first | omega | exact Nat.le_refl _⟩, by repeat (first | exact Drawn0.refl _ | apply Drawn0.step)⟩
   case rest =>
    clear HC7
    try clear c2
    try clear c2b0
    try clear c2b1
    try clear p2
    try clear c4
    try clear c4b0
    try clear c4b1
    try clear c5
    try clear c5b0
    try clear c5b1
    try clear p6
    try clear q6
    try clear hx6
    try clear qi6
    try clear c8
    try clear p2
    try clear p6
    try clear q6
    obtain ⟨kq, x3_6, rfl, HA, HJ6, ⟨mc6, rfl⟩⟩ := hcut
    cases kq with
    | zero => exact absurd HA.out (by simp [rEForm.j1])
    | succ kj6 =>
     have H := HA.out
     clear HA
     simp only [rEForm.j1] at H
     have HC9 := Z0.mk H
     clear H
     go_upto_region 6 with (fail)
     go_cut [24] (fun v24 wc => ∃ (kq : Nat) (x24_8 : Bool), v24 = .bool x24_8 ∧ Z0 (rEForm.j2 kq a0 x3_6 x24_8 = some r) ∧ Z0 (kq ≤ kj6) ∧ Drawn0 w wc)
     case first =>
      have H := HC9.out
      clear HC9
      rcases je H with ⟨-, c10b0, c10b1, H⟩ | ⟨c10, c10b0, c10b1, H⟩
      ·(first | rw [c10b0] | (simp only [i64_w, i32_w]; rw [c10b0]) | skip)
       have H' := Z0.mk H
       clear H
       go_wp2
       go_meet
       case rel => exact ⟨_, (true), fs, H', ⟨by have := HJ2.out; have := HJ6.out; first | omega | exact Nat.le_refl _⟩, by repeat (first | exact Drawn0.refl _ | apply Drawn0.step)⟩
      (first | rw [c10b0] | (simp only [i64_w, i32_w]; rw [c10b0]) | skip)
      obtain ⟨-, c11b0, H⟩ := gd H
      obtain ⟨-, c12b0, H⟩ := gd H
      have H' := Z0.mk H
      clear H
      obtain ⟨hx13, p13, q13⟩ := btA a0 x3_6
      go_wp2
      go_meet
      case rel => exact ⟨_, (((bt a0 x3_6) == 48)), fs, H', ⟨by have := HJ2.out; have := HJ6.out; first | omega | exact Nat.le_refl _⟩, by repeat (first | exact Drawn0.refl _ | apply Drawn0.step)⟩
     case rest =>
      clear HC9
      try clear c1
      try clear p1
      try clear q1
      try clear hx1
      try clear c2
      try clear c2b0
      try clear c2b1
      try clear p2
      try clear c4
      try clear c4b0
      try clear c4b1
      try clear c5
      try clear c5b0
      try clear c5b1
      try clear c6
      try clear p6
      try clear q6
      try clear hx6
      try clear qi6
      try clear c8
      try clear c9
      try clear c10
      try clear c10b0
      try clear c10b1
      try clear c11
      try clear c11b0
      try clear c12
      try clear c12b0
      try clear p13
      try clear q13
      try clear hx13
      try clear p13
      try clear p2
      try clear p6
      try clear q13
      try clear q6
      obtain ⟨kq, x24_8, rfl, HA, HJ8, ⟨mc8, rfl⟩⟩ := hcut
      cases kq with
      | zero => exact absurd HA.out (by simp [rEForm.j2])
      | succ kj8 =>
       have H := HA.out
       clear HA
       simp only [rEForm.j2] at H
       by_cases c14 : x24_8 = true
       ·subst c14
        have H1 : (some false) = some r := by rw [if_pos rfl] at H; exact H
        clear H
        have H := H1
        clear H1
        obtain rfl := Option.some.inj H
        go_wp2
        go_ret
        exact finD
       replace c14 := Bool.eq_false_iff.mpr c14
       subst c14
       have H1 : (rEForm.l0 kj8 a0 x3_6) = some r := by rw [if_neg (show ¬ (false = true) by decide)] at H; exact H
       clear H
       have H := H1
       clear H1
       have H' := Z0.mk H
       clear H
       go_wp2
       go_loopg [4] kj8 (fun kq v4 w' => ∃ (x4_4 : Int), v4 = .int .i64 x4_4 ∧ Z0 (rEForm.l0 kq a0 x4_4 = some r) ∧ Z0 (kq ≤ kj8) ∧ Drawn0 w w')
       case atStart => exact ⟨(x3_6), fs, H', ⟨Nat.le_refl _⟩, by repeat (first | exact Drawn0.refl _ | apply Drawn0.step)⟩
       case round =>
        clear H'
        try clear c1
        try clear p1
        try clear q1
        try clear hx1
        try clear c2
        try clear c2b0
        try clear c2b1
        try clear p2
        try clear c4
        try clear c4b0
        try clear c4b1
        try clear c5
        try clear c5b0
        try clear c5b1
        try clear c6
        try clear p6
        try clear q6
        try clear hx6
        try clear qi6
        try clear c8
        try clear c9
        try clear c10
        try clear c10b0
        try clear c10b1
        try clear c11
        try clear c11b0
        try clear c12
        try clear c12b0
        try clear p13
        try clear q13
        try clear hx13
        try clear c14
        try clear p1
        try clear p13
        try clear p2
        try clear p6
        try clear q1
        try clear q13
        try clear q6
        obtain ⟨x4_4, rfl, HA, HK4, ⟨m4, rfl⟩⟩ := hrel
        cases gk with
        | zero => exact absurd HA.out (by simp [rEForm.l0])
        | succ k4 =>
         have H := HA.out
         clear HA
         simp only [rEForm.l0] at H
         rcases jd H with ⟨-, c15b0, H⟩ | ⟨-, c15b0, H⟩
         ·obtain ⟨-, c16b0, H⟩ := gd H
          rcases jd H with ⟨-, c18b0, H⟩ | ⟨-, c18b0, H⟩
          ·obtain rfl := Option.some.inj H
           obtain ⟨hx17, p17, q17⟩ := btA a0 x4_4
           go_wp2
           go_ret
           exact finD
          rcases jg H with ⟨-, c20b0, H⟩ | ⟨-, c20b0, H⟩
          ·obtain rfl := Option.some.inj H
           obtain ⟨hx17, p17, q17⟩ := btA a0 x4_4
           obtain ⟨hx19, p19, q19⟩ := btA a0 x4_4
           go_wp2
           go_ret
           exact finD
          have H' := Z0.mk H
          clear H
          obtain ⟨hx17, p17, q17⟩ := btA a0 x4_4
          obtain ⟨hx19, p19, q19⟩ := btA a0 x4_4
          go_wp2
          go_roundg k4
          case measure => have := HJ2.out; have := HJ6.out; have := HJ8.out; have := HK4.out; omega
          case rel => exact ⟨(wrap64 (x4_4 + 1)), fs, H', ⟨by have := HJ2.out; have := HJ6.out; have := HJ8.out; have := HK4.out; omega⟩, by repeat (first | exact Drawn0.refl _ | apply Drawn0.step)⟩
         obtain rfl := Option.some.inj H
         go_wp2
         go_ret
         exact finD
theorem rECheck.calls (k : Nat) (a0 : ByteArray) (r : Int) (w : World) (h : rECheck.f k a0 = some r) :
  Calls Tryz.prog 52 #[.string a0] w fun e w' => e = .returned (.int .i64 r) ∧ Drawn0 w w' := by
 have H := h
 clear h
 unfold rECheck.f at H
 obtain ⟨t439, A2, H⟩ := bnd H
 by_cases c3 : t439 = true
 ·subst c3
  have H1 : ((rEDigits.f a0).bind fun t440 => (if t440 > 4096 then (some 10) else (some 0))) = some r := by rw [if_pos rfl] at H; exact H
  clear H
  have H := H1
  clear H1
  obtain ⟨t440, A4, H⟩ := bnd H
  rcases jg H with ⟨-, c5b0, H⟩ | ⟨-, c5b0, H⟩
  ·obtain rfl := Option.some.inj H
   go_enter Tryz.func52, Tryz.ntmps52
   go_wp2_with (first | ((with_reducible refine gc_ 94 rfl ?_); refine goD (some 4) Tryz.func94 #[.string a0] (rEForm.calls k a0 true _ A2.out) ?_; intro nd) | ((with_reducible refine gc_ 72 rfl ?_); refine goD (some 7) Tryz.func72 #[.string a0] (rEDigits.calls a0 t440 _ A4.out) ?_; intro nd))
   go_ret
   exact finD
  obtain rfl := Option.some.inj H
  go_enter Tryz.func52, Tryz.ntmps52
  go_wp2_with (first | ((with_reducible refine gc_ 94 rfl ?_); refine goD (some 4) Tryz.func94 #[.string a0] (rEForm.calls k a0 true _ A2.out) ?_; intro nd) | ((with_reducible refine gc_ 72 rfl ?_); refine goD (some 7) Tryz.func72 #[.string a0] (rEDigits.calls a0 t440 _ A4.out) ?_; intro nd))
  go_ret
  exact finD
 replace c3 := Bool.eq_false_iff.mpr c3
 subst c3
 have H1 : (some 3) = some r := by rw [if_neg (show ¬ (false = true) by decide)] at H; exact H
 clear H
 have H := H1
 clear H1
 obtain rfl := Option.some.inj H
 go_enter Tryz.func52, Tryz.ntmps52
 go_wp2_with (first | ((with_reducible refine gc_ 94 rfl ?_); refine goD (some 4) Tryz.func94 #[.string a0] (rEForm.calls k a0 false _ A2.out) ?_; intro nd))
 go_ret
 exact finD
end Go.Proofs.YtinpcbjjnlpblaaGreatDoor.PA
namespace Go.Proofs.YtinpcbjjnlpblaaGreatDoor
set_option linter.unusedVariables false
open Go.RowKit Go.Proofs.WWords Go.Proofs.WLast Go.Proofs.WMore PA
set_option linter.unusedSimpArgs false
theorem added_calls (f : FuncId) (w : World) : Calls Tryz.prog 113 #[.func (.func f) #[] #[]] w fun e w' => ∃ g, e = .returned (.func (.func 144) #[] #[.pointer (some ⟨g, 0, none⟩)]) ∧ w'.heap[g]? = some (.cells #[.func (.func f) #[] #[]] 49 (0, 0)) ∧ w.heap.size ≤ g ∧ Below w.heap.size w w' := by
 go_enter Tryz.func113, Tryz.ntmps113
 go_wp2
 go_ret
 exact ⟨w.heap.size, rfl, World.alloc_heap_new w _, Nat.le_refl _, (Below.refl _ w).alloc (Nat.le_refl _) _⟩
theorem check_u8 (e : Bool) (n : Nat) (k : Int) (w : World) : (Instr.checkKey e (n + 1) 5 (.int .u8 k)).run Tryz.prog w = .ok () w := by
 have h2 := run_underlying (P := Tryz.prog) Tryz.underlying5
 unfold Instr.checkKey
 simp [h2]
theorem check_u8' (e : Bool) (k : Int) (w : World) : (Instr.checkKey e 10000 5 (.int .u8 k)).run Tryz.prog w = .ok () w := check_u8 e 9999 k w
theorem run_put (m : Nat) (es : Array MapEntry) (clock : Nat) (k : Int) (v : Value) (w : World) (hb : w.heap[m]? = some (.map es clock)) (hn : Instr.findNow (.int .u8) (.int .u8 k) es.toList 0 = some none) :
    (Instr.mapUpdate 98 (.map (some m)) (.int .u8 k) v).run Tryz.prog w = .ok () (w.putObj m (.map (es.push { key := .int .u8 k, val := v, born := clock }) (clock + 1))) := by
 have h1 := run_underlying (P := Tryz.prog) Tryz.underlying98
 have h2 := run_underlying (P := Tryz.prog) Tryz.underlying5
 unfold Instr.mapUpdate
 simp [h1, h2, check_u8', Instr.findKey, hn, Go.MapKept.run_getObj_map hb, Go.MapKept.run_setObj_map _ hb, World.putObj]
theorem run_look (m : Nat) (es : Array MapEntry) (clock : Nat) (k : Int) (i : Nat) (v : Value) (w : World) (hb : w.heap[m]? = some (.map es clock)) (hn : Instr.findNow (.int .u8) (.int .u8 k) es.toList 0 = some (some (i, v))) :
    (Instr.lookup 98 (.map (some m)) (.int .u8 k) false).run Tryz.prog w = .ok v w := by
 have h1 := run_underlying (P := Tryz.prog) Tryz.underlying98
 have h2 := run_underlying (P := Tryz.prog) Tryz.underlying5
 unfold Instr.lookup
 simp [h1, h2, check_u8', Instr.findKey, hn, Go.MapKept.run_getObj_map hb]
section
variable {P : Program} {ops : Array Oper} {Q : Exit → Act → World → Prop} {rest : List Oper} {o : Oper} {a : Act} {W w1 : World}
theorem gate_ins {k : Int} {v : Operand} (_h : o.op = .insert 98 (.tmp 1) (.const (.int .u8 k)) v) (h : wpList P ops Q (o :: rest) a W) : wpList P ops Q (o :: rest) a W := h
theorem ins_event (m : Nat) (es : Array MapEntry) (clock : Nat) (k : Int) (x : Operand) (v : Value) (hgd : o.guard = none) (hN : o.dst = none) (hop : o.op = .insert 98 (.tmp 1) (.const (.int .u8 k)) x) (hm : a.eval (.tmp 1) = .map (some m)) (hv : a.eval x = v)
    (hb : W.heap[m]? = some (.map es clock)) (hn : Instr.findNow (.int .u8) (.int .u8 k) es.toList 0 = some none)
    (h : ∀ w', w'.heap[m]? = some (.map (es.push { key := .int .u8 k, val := v, born := clock }) (clock + 1)) → W.grownBy w' (some m) → wpList Tryz.prog ops Q rest a w') : wpList Tryz.prog ops Q (o :: rest) a W := by
 refine wpList_plain hgd fun K hK => ?_
 have hr := run_put m es clock k v W hb hn
 unfold Oper.wp
 have he : (execOp a.eval o).run Tryz.prog W = .ok .skip (W.putObj m (.map (es.push { key := .int .u8 k, val := v, born := clock }) (clock + 1))) := by
  have hk : a.eval (.const (.int .u8 k)) = .int .u8 k := rfl
  unfold execOp
  simp [hop, hm, hv, hk, hr]
 rw [he]
 show K (a.put o.dst undef) _
 rw [hN]
 exact hK _ _ (h _ (World.putObj_heap_same (Array.getElem?_eq_some_iff.1 hb).1) (grownBy_putObj' W m _))
end
def ropsE (g1 g2 : Nat) : Array MapEntry := #[⟨.int .u8 43, .func (.func 144) #[] #[.pointer (some ⟨g1, 0, none⟩)], 0⟩, ⟨.int .u8 45, .func (.func 144) #[] #[.pointer (some ⟨g2, 0, none⟩)], 1⟩, ⟨.int .u8 42, .func (.func 115) #[] #[], 2⟩, ⟨.int .u8 47, .func (.func 116) #[] #[], 3⟩]
theorem rops_calls (w : World) : Calls Tryz.prog 70 #[] w fun e w' => ∃ m g1 g2, e = .returned (.map (some m)) ∧ w'.heap[m]? = some (.map (ropsE g1 g2) 4) ∧ w'.heap[g1]? = some (.cells #[.func (.func 66) #[] #[]] 49 (0, 0)) ∧ w'.heap[g2]? = some (.cells #[.func (.func 114) #[] #[]] 49 (0, 0)) ∧ Below w.heap.size w w' := by
 go_enter Tryz.func70, Tryz.ntmps70
 go_wp2_with (first
   | ((with_reducible refine gd_ 1 rfl ?_); refine Kd.event_run rfl (v := .map (some w.heap.size)) (w1 := w.alloc (.map #[] 0)) (by rfl) ?_
      obtain ⟨m, hm⟩ : ∃ m, w.heap.size = m := ⟨_, rfl⟩
      obtain ⟨W0, hW0⟩ : ∃ W0, w.alloc (.map #[] 0) = W0 := ⟨_, rfl⟩
      have hb0 : Below w.heap.size w W0 := by rw [← hW0]; exact (Below.refl _ w).alloc (Nat.le_refl _) _
      have hm0 : W0.heap[m]? = some (.map #[] 0) := by rw [← hW0, ← hm]; exact World.alloc_heap_new w _
      have hml := (Array.getElem?_eq_some_iff.1 hm0).1
      rw [hW0, hm]; clear hW0)
   | ((with_reducible refine gd_ 2 rfl ?_); refine goesL_ (some 2) rfl rfl Tryz.func113 (by kernel_rfl) rfl #[.func (.func 66) #[] #[]] rfl (by (try simp only [List.map_toArray, List.map_cons, List.map_nil]); first | done | rfl) ?_; refine (added_calls 66 _).mono ?_; rintro e w1 ⟨g1, rfl, hg1, hl1, hb1⟩; refine ⟨_, rfl, ?_⟩
      have hm1 : w1.heap[m]? = some (.map #[] 0) := (hb1.block m hml).trans hm0
      have hB1 := hb0.trans (hb1.mono hb0.size))
   | ((with_reducible refine gate_ins (k := 43) rfl ?_); refine ins_event m #[] 0 43 _ _ rfl rfl rfl rfl rfl hm1 rfl ?_; intro w2 hm2 hw2
      have hg12 : w2.heap[g1]? = some (.cells #[.func (.func 66) #[] #[]] 49 (0, 0)) := (hw2.block g1 (Array.getElem?_eq_some_iff.1 hg1).1 (fun e => by cases e; omega)).trans hg1
      have hB2 := hB1.grown hw2 hB1.size (fun k e => by cases e; omega)
      have hml2 := (Array.getElem?_eq_some_iff.1 hm2).1)
   | ((with_reducible refine gd_ 3 rfl ?_); refine goesL_ (some 3) rfl rfl Tryz.func113 (by kernel_rfl) rfl #[.func (.func 114) #[] #[]] rfl (by (try simp only [List.map_toArray, List.map_cons, List.map_nil]); first | done | rfl) ?_; refine (added_calls 114 _).mono ?_; rintro e w3 ⟨g2, rfl, hg2, hl2, hb3⟩; refine ⟨_, rfl, ?_⟩
      have hm3 := (hb3.block m hml2).trans hm2
      have hg13 := (hb3.block g1 (Array.getElem?_eq_some_iff.1 hg12).1).trans hg12
      have hB3 := hB2.trans (hb3.mono hB2.size))
   | ((with_reducible refine gate_ins (k := 45) rfl ?_); refine ins_event m _ 1 45 _ _ rfl rfl rfl rfl rfl hm3 rfl ?_; intro w4 hm4 hw4
      have hg14 := (hw4.block g1 (Array.getElem?_eq_some_iff.1 hg13).1 (fun e => by cases e; omega)).trans hg13
      have hg24 := (hw4.block g2 (Array.getElem?_eq_some_iff.1 hg2).1 (fun e => by cases e; omega)).trans hg2
      have hB4 := hB3.grown hw4 hB3.size (fun k e => by cases e; omega))
   | ((with_reducible refine gate_ins (k := 42) rfl ?_); refine ins_event m _ 2 42 _ _ rfl rfl rfl rfl rfl hm4 rfl ?_; intro w5 hm5 hw5
      have hg15 := (hw5.block g1 (Array.getElem?_eq_some_iff.1 hg14).1 (fun e => by cases e; omega)).trans hg14
      have hg25 := (hw5.block g2 (Array.getElem?_eq_some_iff.1 hg24).1 (fun e => by cases e; omega)).trans hg24
      have hB5 := hB4.grown hw5 hB4.size (fun k e => by cases e; omega))
   | ((with_reducible refine gate_ins (k := 47) rfl ?_); refine ins_event m _ 3 47 _ _ rfl rfl rfl rfl rfl hm5 rfl ?_; intro w6 hm6 hw6
      have hg16 := (hw6.block g1 (Array.getElem?_eq_some_iff.1 hg15).1 (fun e => by cases e; omega)).trans hg15
      have hg26 := (hw6.block g2 (Array.getElem?_eq_some_iff.1 hg25).1 (fun e => by cases e; omega)).trans hg25
      have hB6 := hB5.grown hw6 hB5.size (fun k e => by cases e; omega)))
 go_ret
 exact ⟨m, rfl, g1, g2, hm6, hg16, hg26, by rw [← hm]; exact hB6⟩
end Go.Proofs.YtinpcbjjnlpblaaGreatDoor
namespace Go.Proofs.YtinpcbjjnlpblaaGreatDoor.PA
set_option linter.unusedVariables false
open Go.RowKit Go.Proofs.WWords Go.Proofs.WLast Go.Proofs.WMore
attribute [local go_sem] max2_int min2_int max_two min_two max_three min_three max_four min_four
set_option linter.unusedSimpArgs false
theorem bIcanonical.calls (a0 : ByteArray) (r : Bool) (w : World) (h : bIcanonical.f a0 = some r) :
  Calls Tryz.prog 110 #[.string a0] w fun e w' => e = .returned (.bool r) ∧ Below w.heap.size w w' := by
 have HB := Z0.mk (Below.refl w.heap.size w)
 have H := h
 clear h
 unfold bIcanonical.f at H
 obtain ⟨⟨t102, t103⟩, A2, H⟩ := bnd H
 try dsimp only at H
 rcases je H with ⟨-, c3b0, c3b1, H⟩ | ⟨c3, c3b0, c3b1, H⟩
 ·obtain rfl := Option.some.inj H
  go_enter Tryz.func110, Tryz.ntmps110
  go_wp2_with (first | ((with_reducible refine gc_ 128 rfl ?_); refine goB (some 7) Tryz.func128 #[.string a0, .string (⟨#[45]⟩ : ByteArray)] bq (strings_CutPrefix.calls a0 (⟨#[45]⟩ : ByteArray) t102 t103 _ A2.out) ?_; clear HB; intro w4 HB))
  go_ret
  exact finE
 rcases je H with ⟨-, c5b0, c5b1, H⟩ | ⟨c5, c5b0, c5b1, H⟩
 ·obtain rfl := Option.some.inj H
  go_enter Tryz.func110, Tryz.ntmps110
  go_wp2_with (first | ((with_reducible refine gc_ 128 rfl ?_); refine goB (some 7) Tryz.func128 #[.string a0, .string (⟨#[45]⟩ : ByteArray)] bq (strings_CutPrefix.calls a0 (⟨#[45]⟩ : ByteArray) t102 t103 _ A2.out) ?_; clear HB; intro w6 HB))
  go_ret
  exact finE
 obtain ⟨c7, c7b0, H⟩ := gd H
 have c7b1 : decide (0 < t102.size) = true := decide_eq_true (by omega)
 clear c7
 rcases je H with ⟨-, c9b0, c9b1, H⟩ | ⟨c9, c9b0, c9b1, H⟩
 ·obtain rfl := Option.some.inj H
  go_enter Tryz.func110, Tryz.ntmps110
  go_wp2_with (first | ((with_reducible refine gc_ 128 rfl ?_); refine gL 7 Tryz.func128 (strings_CutPrefix.calls _ _ _ _ _ A2.out) ?_; rintro _ w10 ⟨rfl, hb⟩; refine ⟨_, rfl, ?_⟩; replace HB := fB HB hb; clear hb; have p8 : 0 ≤ (0 : Int) := (by omega); have q8 : 0 < t102.size := (by have : (0 : Int) < (t102.size : Int) := od; omega); have hx8 : ∀ h : 0 < t102.size, ((t102[0]'h).toNat : Int) = bt t102 0 := bt_at t102 0; clear p8; have qi8 : (0 < (t102.size : Int)) = True := eq_true od; replace q8 := eq_true q8))
  go_ret
  exact finE
 obtain ⟨t104, A11, H⟩ := bnd H
 obtain rfl := Option.some.inj H
 go_enter Tryz.func110, Tryz.ntmps110
 go_wp2_with (first | ((with_reducible refine gc_ 128 rfl ?_); refine gL 7 Tryz.func128 (strings_CutPrefix.calls _ _ _ _ _ A2.out) ?_; rintro _ w12 ⟨rfl, hb⟩; refine ⟨_, rfl, ?_⟩; replace HB := fB HB hb; clear hb; have p8 : 0 ≤ (0 : Int) := (by omega); have q8 : 0 < t102.size := (by have : (0 : Int) < (t102.size : Int) := od; omega); have hx8 : ∀ h : 0 < t102.size, ((t102[0]'h).toNat : Int) = bt t102 0 := bt_at t102 0; clear p8; have qi8 : (0 < (t102.size : Int)) = True := eq_true od; replace q8 := eq_true q8) | (go_at_call 142; (with_reducible refine (strings_Trim.calls t102 (⟨#[48, 49, 50, 51, 52, 53, 54, 55, 56, 57]⟩ : ByteArray) t104 _ A11.out).mono ?_); rintro e w13 ⟨rfl, hb⟩; replace HB := fB HB hb; clear hb))
 go_ret
 exact finE
theorem stringslite_HasPrefix.calls (a0 : ByteArray) (a1 : ByteArray) (r : Bool) (w : World) (h : stringslite_HasPrefix.f a0 a1 = some r) :
  Calls Tryz.prog 143 #[.string a0, .string a1] w fun e w' => e = .returned (.bool r) ∧ Drawn0 w w' := by
 have H := h
 clear h
 unfold stringslite_HasPrefix.f at H
 rcases jh H with ⟨c3, c3b0, H⟩ | ⟨c3, c3b0, H⟩
 ·have c3b1 : decide (a1.size ≤ a0.size) = true := decide_eq_true (Int.ofNat_le.mp c3)
  clear c3
  obtain ⟨-, c4b0, c4b1, H⟩ := gt H
  obtain ⟨-, c5b0, c5b1, H⟩ := gt H
  obtain rfl := Option.some.inj H
  go_enter Tryz.func143, Tryz.ntmps143
  go_wp2
  go_ret
  exact finD
 have c3b1 : decide (a1.size ≤ a0.size) = false := decide_eq_false (fun h => c3 (Int.ofNat_le.mpr h))
 clear c3
 obtain rfl := Option.some.inj H
 go_enter Tryz.func143, Tryz.ntmps143
 go_wp2
 go_ret
 exact finD
theorem stringslite_TrimPrefix.calls (a0 : ByteArray) (a1 : ByteArray) (r : ByteArray) (w : World) (h : stringslite_TrimPrefix.f a0 a1 = some r) :
  Calls Tryz.prog 112 #[.string a0, .string a1] w fun e w' => e = .returned (.string r) ∧ Drawn0 w w' := by
 have H := h
 clear h
 unfold stringslite_TrimPrefix.f at H
 obtain ⟨t105, A3, H⟩ := bnd H
 by_cases c4 : t105 = true
 ·subst c4
  have H1 : (if 0 ≤ (a1.size : Int) then (if (a1.size : Int) ≤ (a0.size : Int) then (some (a0.extract ((a1.size : Int) : Int).toNat a0.size)) else (none)) else (none)) = some r := by rw [if_pos rfl] at H; exact H
  clear H
  have H := H1
  clear H1
  obtain ⟨-, c5b0, c5b1, H⟩ := gt H
  obtain ⟨-, c6b0, c6b1, H⟩ := gt H
  obtain rfl := Option.some.inj H
  go_enter Tryz.func112, Tryz.ntmps112
  go_wp2_with (first | ((with_reducible refine gc_ 143 rfl ?_); refine goD (some 7) Tryz.func143 #[.string a0, .string a1] (stringslite_HasPrefix.calls a0 a1 true _ A3.out) ?_; intro nd))
  go_ret
  exact finD
 replace c4 := Bool.eq_false_iff.mpr c4
 subst c4
 have H1 : (some a0) = some r := by rw [if_neg (show ¬ (false = true) by decide)] at H; exact H
 clear H
 have H := H1
 clear H1
 obtain rfl := Option.some.inj H
 go_enter Tryz.func112, Tryz.ntmps112
 go_wp2_with (first | ((with_reducible refine gc_ 143 rfl ?_); refine goD (some 7) Tryz.func143 #[.string a0, .string a1] (stringslite_HasPrefix.calls a0 a1 false _ A3.out) ?_; intro nd))
 go_ret
 exact finD
theorem strings_TrimPrefix.calls (a0 : ByteArray) (a1 : ByteArray) (r : ByteArray) (w : World) (h : strings_TrimPrefix.f a0 a1 = some r) :
  Calls Tryz.prog 68 #[.string a0, .string a1] w fun e w' => e = .returned (.string r) ∧ Drawn0 w w' := by
 have H := h
 clear h
 unfold strings_TrimPrefix.f at H
 obtain ⟨t106, A3, H⟩ := bnd H
 obtain rfl := Option.some.inj H
 go_enter Tryz.func68, Tryz.ntmps68
 go_wp2_with (first | ((with_reducible refine gc_ 112 rfl ?_); refine goD (some 7) Tryz.func112 #[.string a0, .string a1] (stringslite_TrimPrefix.calls a0 a1 t106 _ A3.out) ?_; intro nd))
 go_ret
 exact finD
theorem bIdigits.calls (a0 : ByteArray) (r : Int) (w : World) (h : bIdigits.f a0 = some r) :
  Calls Tryz.prog 111 #[.string a0] w fun e w' => e = .returned (.int .i64 r) ∧ Drawn0 w w' := by
 have H := h
 clear h
 unfold bIdigits.f at H
 obtain ⟨t107, A2, H⟩ := bnd H
 obtain rfl := Option.some.inj H
 go_enter Tryz.func111, Tryz.ntmps111
 go_wp2_with (first | ((with_reducible refine gc_ 68 rfl ?_); refine goD (some 4) Tryz.func68 #[.string a0, .string (⟨#[45]⟩ : ByteArray)] (strings_TrimPrefix.calls a0 (⟨#[45]⟩ : ByteArray) t107 _ A2.out) ?_; intro nd))
 go_ret
 exact finD
end Go.Proofs.YtinpcbjjnlpblaaGreatDoor.PA
