import Derived.Test.YtihbebbabjklkaaGreatDoorAW
import Derived.Test.YtihbebbabjklkaaGreatDoorProg
import Derived.KernelRfl
import Derived.Shelf.Strings.Builder1
import Derived.Shelf.Strings.Builder2
import Derived.Shelf.Strings.Trim
import Derived.Shelf.Small.Utf8
import Derived.Shelf.Small.Strs
import Derived.Shelf.Small.Wraps
import Derived.Shelf.Strings.BuilderF
import Derived.Shelf.Strings.BuilderK
import Derived.Shelf.Strconv.Atoi
import Derived.Shelf.Strconv.Itoa0
import Derived.Shelf.Strconv.Itoa1
import Derived.Shelf.LaysM
import Derived.Shelf.Strconv.Itoa2
import Derived.Shelf.Strconv.Itoa3
import Derived.Shelf.Strings.Search1
import Derived.Shelf.Strings.Search2
import Derived.Shelf.Strings.Search3
import Derived.Shelf.Strings.Shaped
import Derived.Shelf.Strings.Prefix
import Derived.Shelf.Strings.Runes
import Derived.Shelf.Strings.AsciiSet
import Derived.Shelf.Bits.Mul64
import Derived.Shelf.Strings.Repeat
import Derived.Shelf.Unicode.DecodeSlow
import Derived.Shelf.Strings.SlTrimAscii
import Derived.Test.YtihbebbabjklkaaGreatDoorAD
import Derived.Lib.LaidTab
import Derived.Lib.AppendIntMem
import Derived.Test.YtihbebbabjklkaaGreatDoorAP2
set_option maxHeartbeats 8000000
set_option maxRecDepth 100000
set_option linter.unusedVariables false
namespace Go.Proofs.YtihbebbabjklkaaGreatDoor
set_option linter.unusedVariables false
open Go.RowKit Go.Proofs.WWords Go.Proofs.WLast Go.Proofs.WMore
theorem bq {B : Nat} {w W : World} (h : Below B w W := by repeat (first | (with_reducible first | exact HB.out | apply below_alloc | apply pw_below_drewN | apply below_drew1) | exact HB.out)) : Below B w W := h
theorem goB {P : Program} {ops : Array Oper} {Q : Exit → Act → World → Prop} {rest : List Oper} {oi : Oper} {a : Act} {W w0 : World} {f : FuncId} {fn : Func} {ars : Array Operand} {ts : Array TypeId} {v : Value} (N : Option Tmp) (hf : P.funcs[f]? = some fn) (args : Array Value)
    (hB : Below w0.heap.size w0 W) (hc : Calls P f args W fun e w' => e = .returned v ∧ Below W.heap.size W w') (K : ∀ w', Z0 (Below w0.heap.size w0 w') → wpList P ops Q rest (a.put N v) w')
    (hd : oi.dst = N := by rfl) (hg : oi.guard = none := by rfl) (hname : (fn.name == "runtime.NumGoroutine") = false := by kernel_rfl) (hb : fn.body.isSome = true := by rfl) (hop : oi.op = .call { callee := .value (.func f), args := ars, argTypes := ts } := by rfl)
    (hargs : ars.map a.eval = args := by (try simp only [List.map_toArray, List.map_cons, List.map_nil]); first | done | rfl | (simp only [List.length_drop, List.length_take]; rfl)) : wpList P ops Q (oi :: rest) a W := by
  refine goesL_ N hd hg hf hname hb args hop hargs (hc.mono ?_)
  rintro e w' ⟨rfl, hb⟩
  exact ⟨_, rfl, K w' (Z0.mk (below_step hB hb))⟩
theorem goD {P : Program} {ops : Array Oper} {Q : Exit → Act → World → Prop} {rest : List Oper} {oi : Oper} {a : Act} {W : World} {f : FuncId} {fn : Func} {ars : Array Operand} {ts : Array TypeId} {v : Value} (N : Option Tmp) (hf : P.funcs[f]? = some fn) (args : Array Value)
    (hc : Calls P f args W fun e w' => e = .returned v ∧ Drawn0 W w') (K : ∀ nd, wpList P ops Q rest (a.put N v) (W.drewN nd))
    (hd : oi.dst = N := by rfl) (hg : oi.guard = none := by rfl) (hname : (fn.name == "runtime.NumGoroutine") = false := by kernel_rfl) (hb : fn.body.isSome = true := by rfl) (hop : oi.op = .call { callee := .value (.func f), args := ars, argTypes := ts } := by rfl)
    (hargs : ars.map a.eval = args := by (try simp only [List.map_toArray, List.map_cons, List.map_nil]); first | done | rfl | (simp only [List.length_drop, List.length_take]; rfl)) : wpList P ops Q (oi :: rest) a W := by
  refine goesL_ N hd hg hf hname hb args hop hargs (hc.mono ?_)
  rintro e w' ⟨rfl, ⟨nd, rfl⟩⟩
  exact ⟨_, rfl, K nd⟩
theorem bnd {α β : Type} {o : Option α} {f : α → Option β} {r : β} (h : o.bind f = some r) : ∃ x, Z0 (o = some x) ∧ f x = some r := by
 obtain ⟨x, h1, h2⟩ := Option.bind_eq_some_iff.mp h
 exact ⟨x, ⟨h1⟩, h2⟩
theorem bqs {B : Nat} {w W : World} (h : Below B w W := by repeat (first | (with_reducible first | exact HB.out | apply below_alloc | apply pw_below_drewN | apply below_drew1 | refine below_set ?_ (Z0.out (by with_reducible assumption))) | exact HB.out)) : Below B w W := h
theorem rq {α : Type} {d : Kd α} {e base : Nat} {ok : Nat → Prop} {W0 W : World} {v : Value} {xs : List α} (h0 : Z0 (d.R e W0 base ok v xs)) (s : d.R e W0 base ok v xs → d.R e W base ok v xs := by intro h_; (with_reducible repeat (first | apply Kd.R_alloc | apply Kd.R_drewN | apply Kd.R_drew)); exact h_) : d.R e W base ok v xs := s h0.out
theorem vq {α : Type} {d : Kd α} {e base : Nat} {ok : Nat → Prop} {W0 W : World} {v : Value} {xs : List α} (h0 : Z0 (d.V e W0 base ok v xs)) (s : d.V e W0 base ok v xs → d.V e W base ok v xs := by intro h_; (with_reducible repeat (first | apply Kd.V_alloc | apply Kd.V_drewN | apply Kd.V_drew)); exact h_) : d.V e W base ok v xs := s h0.out
theorem fR {α : Type} {d : Kd α} {e base : Nat} {ok : Nat → Prop} {W0 W w' : World} {v : Value} {xs : List α} (h0 : Z0 (d.R e W0 base ok v xs)) (hb : Below W.heap.size W w') (s : d.R e W0 base ok v xs → d.R e W base ok v xs := by intro h_; (with_reducible repeat (first | apply Kd.R_alloc | apply Kd.R_drewN | apply Kd.R_drew)); exact h_) : Z0 (d.R e w' base ok v xs) := ⟨Kd.R_below (s h0.out) hb⟩
theorem fV {α : Type} {d : Kd α} {e base : Nat} {ok : Nat → Prop} {W0 W w' : World} {v : Value} {xs : List α} (h0 : Z0 (d.V e W0 base ok v xs)) (hb : Below W.heap.size W w') (s : d.V e W0 base ok v xs → d.V e W base ok v xs := by intro h_; (with_reducible repeat (first | apply Kd.V_alloc | apply Kd.V_drewN | apply Kd.V_drew)); exact h_) : Z0 (d.V e w' base ok v xs) := ⟨Kd.V_below (s h0.out) hb⟩
theorem fB {w W0 W w' : World} (h0 : Z0 (Below w.heap.size w W0)) (hb : Below W.heap.size W w') (s : Below w.heap.size w W := by exact bqs) : Z0 (Below w.heap.size w w') := ⟨below_step s hb⟩
theorem fk {W0 W w' : World} {g : Nat} {o : Obj} (h0 : Z0 (W0.heap[g]? = some o)) (hb : Below W.heap.size W w') (s : W0.heap[g]? = some o → W.heap[g]? = some o := by intro h_; (with_reducible repeat (first | refine blk_drewN ?_ _ | refine blk_drew ?_ | refine blk_alloc ?_ _)); exact h_) : Z0 (w'.heap[g]? = some o) := ⟨blk_below (s h0.out) hb⟩
theorem fE {w W0 W : World} {g : Nat} (h0 : Z0 (Below w.heap.size w W0)) (hg : g = W.heap.size) (s : Below w.heap.size w W := by exact bqs) : Z0 (w.heap.size ≤ g) := ⟨hg ▸ below_size s⟩
theorem fl {W0 W : World} {g g' : Nat} {o : Obj} (h0 : Z0 (W0.heap[g]? = some o)) (hg : g' = W.heap.size) (s : W0.heap[g]? = some o → W.heap[g]? = some o := by intro h_; (with_reducible repeat (first | refine blk_drewN ?_ _ | refine blk_drew ?_ | refine blk_alloc ?_ _)); exact h_) : Z0 (g ≠ g') := ⟨hg ▸ Nat.ne_of_lt (blk_lt (s h0.out))⟩
theorem fg {W0 W : World} {g g' : Nat} {o : Obj} (h0 : Z0 (W0.heap[g]? = some o)) (hg : g' = W.heap.size) (s : W0.heap[g]? = some o → W.heap[g]? = some o := by intro h_; (with_reducible repeat (first | refine blk_drewN ?_ _ | refine blk_drew ?_ | refine blk_alloc ?_ _)); exact h_) : Z0 (g' ≠ g) := ⟨hg ▸ Nat.ne_of_gt (blk_lt (s h0.out))⟩
theorem bxE {P : Program} {ops : Array Oper} {rest : List Oper} {o : Oper} {a : Act} {Q : Exit → Act → World → Prop} {W : World} (N : Tmp) (cs : Array Value) (t : TypeId)
  (h : ∀ (g : Nat), g = W.heap.size → ∀ (w1 : World), w1.heap[g]? = some (Obj.cells cs t) → Below W.heap.size W w1 → wpList P ops Q rest (a.put o.dst (Value.pointer (some ⟨g, 0, none⟩))) w1)
  (hd : o.dst = some N := by rfl) (hg : o.guard = none := by rfl) (hr : Sem.run P (execOp a.eval o) W = Result.ok (Next.value (Value.pointer (some ⟨W.heap.size, 0, none⟩))) (W.alloc (Obj.cells cs t)) := by first | (go_simp; done) | (go_simp; rfl)) : wpList P ops Q (o :: rest) a W := box_event hg hd hr h
theorem finD {p q : Prop} (h : p := by first | rfl | (simp; done) | (simp [*]; done)) (k : q := by repeat (first | exact Drawn0.refl _ | apply Drawn0.step)) : p ∧ q := ⟨h, k⟩
section
variable {α β : Type} {p : Prop} {x y : Option α} {r : α} {s : Option α} {a b : β} {i j : Int}
theorem gn [Decidable p] (h : (if p then x else none) = some r) : p ∧ x = some r := by
 by_cases c : p
 ·rw [if_pos c] at h; exact ⟨c, h⟩
 ·rw [if_neg c] at h; cases h
theorem gd [Decidable p] (h : (if p then x else none) = some r) : p ∧ decide p = true ∧ x = some r := ⟨(gn h).1, decide_eq_true (gn h).1, (gn h).2⟩
theorem gt [Decidable p] (h : (if p then x else none) = some r) : p ∧ p = True ∧ decide p = true ∧ x = some r := ⟨(gn h).1, eq_true (gn h).1, decide_eq_true (gn h).1, (gn h).2⟩
theorem jn [Decidable p] (h : (if p then x else y) = s) : p ∧ x = s ∨ ¬p ∧ y = s := by
 by_cases c : p
 ·rw [if_pos c] at h; exact .inl ⟨c, h⟩
 ·rw [if_neg c] at h; exact .inr ⟨c, h⟩
theorem jd [Decidable p] (h : (if p then x else y) = s) : p ∧ decide p = true ∧ x = s ∨ ¬p ∧ decide p = false ∧ y = s := (jn h).imp (fun c => ⟨c.1, decide_eq_true c.1, c.2⟩) fun c => ⟨c.1, decide_eq_false c.1, c.2⟩
theorem jg (h : (if i > j then x else y) = s) : i > j ∧ decide (j < i) = true ∧ x = s ∨ ¬i > j ∧ decide (j < i) = false ∧ y = s := jd h
theorem jh (h : (if i ≥ j then x else y) = s) : i ≥ j ∧ decide (j ≤ i) = true ∧ x = s ∨ ¬i ≥ j ∧ decide (j ≤ i) = false ∧ y = s := jd h
theorem je [BEq β] [LawfulBEq β] [Decidable (a = b)] (h : (if a = b then x else y) = s) : a = b ∧ (a == b) = true ∧ (a != b) = false ∧ x = s ∨ ¬a = b ∧ (a == b) = false ∧ (a != b) = true ∧ y = s := (jn h).imp (fun c => ⟨c.1, beq_iff_eq.mpr c.1, bne_eq_false_iff_eq.mpr c.1, c.2⟩) fun c => ⟨c.1, beq_eq_false_iff_ne.mpr c.1, bne_iff_ne.mpr c.1, c.2⟩
theorem fQ [BEq β] [LawfulBEq β] [Decidable (a = b)] (h : (if a = b then none else y) = some r) : ¬a = b ∧ (a == b) = false ∧ (a != b) = true ∧ y = some r := (je h).elim (fun c => nomatch c.2.2.2) id
end
theorem yb {α β : Type} {e : α} {f : α → Option β} {r : Option β} (h : (some e).bind f = r) : ∃ y, Z0 (y = e) ∧ f y = r := ⟨e, ⟨rfl⟩, h⟩
theorem cq {α : Type} {k : Kd α} {w0 W : World} {A : Option Addr} {n : Nat} {xs : List α} (h : k.C w0 A n xs) (s : k.C w0 A n xs → k.C W A n xs := by intro h_; repeat (first | exact h_ | (with_reducible refine Kd.C_alloc ?_ _) | (with_reducible refine Kd.C_drewN ?_ _) | (with_reducible refine Kd.C_drew ?_))) : k.C W A n xs := s h
theorem hq {W0 W : World} {g : Nat} {o : Obj} (h0 : Z0 (W0.heap[g]? = some o)) (s : W0.heap[g]? = some o → W.heap[g]? = some o := by intro h_; (with_reducible repeat (first | refine blk_drewN ?_ _ | refine blk_drew ?_ | refine blk_alloc ?_ _)); exact h_) : W.heap[g]? = some o := s h0.out
theorem fN {α : Type} {d : Kd α} {e : Nat} {ok : Nat → Prop} {w W w' : World} {v : Value} {xs : List α} (h : d.R e w' W.heap.size ok v xs) (s : Below w.heap.size w W := by exact bqs) : Z0 (d.R e w' w.heap.size ok v xs) := ⟨Kd.R_lower h (below_size s)⟩
theorem od {P : Prop} [Decidable P] (h : decide P = true := by first | (with_reducible assumption) | assumption) : P := of_decide_eq_true h
theorem fe {p : Prop} (h : p := by first | rfl | (simp [errW_none, errW_some] <;> rfl) | (simp [*, errW_none, errW_some] <;> rfl)) : p := h
theorem finE {p q : Prop} (h : p := by first | rfl | (simp [errW_none, errW_some] <;> rfl) | (simp [*, errW_none, errW_some] <;> rfl)) (k : q := by exact bqs) : p ∧ q := ⟨h, k⟩
theorem fs {p : Prop} (h : p := by first | rfl | (simp; done) | (simp [*]; done)) : p := h
section
variable {w w' : World} {A : Option Addr} {n : Nat} {k : IntKind} {xs : List Int} {ss : List ByteArray}
theorem atI (h : (Kd.int k).C w A n xs) (i : Int) (p : 0 ≤ i := by exact od) (q : i < n := by exact od) : ∃ ad, A = some ad ∧ w.cell? (ad.add i.toNat) = some (.int k (rd xs i)) ∧ (0 ≤ i) = True ∧ (i < n) = True :=
 let ⟨ad, h1, h2⟩ := Kd.at_int h i p q; ⟨ad, h1, h2, eq_true p, eq_true q⟩
theorem atB (HB : Z0 (Below w.heap.size w w')) (h : (Kd.int k).C w A n xs) (i : Int) (p : 0 ≤ i := by exact od) (q : i < n := by exact od) : ∃ ad, A = some ad ∧ w'.cell? (ad.add i.toNat) = some (.int k (rd xs i)) ∧ (0 ≤ i) = True ∧ (i < n) = True :=
 let ⟨ad, h1, h2⟩ := Kd.at_int h i p q; ⟨ad, h1, (HB.out.cell (World.block_lt_of_cell? w _ h2)).trans h2, eq_true p, eq_true q⟩
theorem asI (h : Kd.string.C w A n ss) (i : Int) (p : 0 ≤ i := by exact od) (q : i < n := by exact od) : ∃ ad, A = some ad ∧ w.cell? (ad.add i.toNat) = some (.string (rdOf ByteArray.empty ss i)) ∧ (0 ≤ i) = True ∧ (i < n) = True :=
 let ⟨ad, h1, h2⟩ := Kd.at_string h i p q; ⟨ad, h1, h2, eq_true p, eq_true q⟩
theorem btA (a : ByteArray) (i : Int) (p : 0 ≤ i := by exact od) (q : i < (a.size : Int) := by exact od) : (∀ h : i.toNat < a.size, ((a[i.toNat]'h).toNat : Int) = bt a i) ∧ (0 ≤ i) = True ∧ (i < (a.size : Int)) = True := ⟨bt_at a i, eq_true p, eq_true q⟩
theorem b2 {g : Nat} {t : TypeId} {c d : Value} (h : Z0 (w.heap[g]? = some (.cells #[c, d] t (0, 0)))) : w.cell? ⟨g, 0, none⟩ = some c ∧ w.cell? ⟨g, 1, none⟩ = some d ∧ w.frozen? ⟨g, 0, none⟩ = false ∧ w.frozen? ⟨g, 1, none⟩ = false :=
 ⟨(blk_cell h.out 0).trans rfl, (blk_cell h.out 1).trans rfl, blk_frozen h.out 0, blk_frozen h.out 1⟩
theorem b4 {g : Nat} {t : TypeId} {c d e f : Value} (h : Z0 (w.heap[g]? = some (.cells #[c, d, e, f] t (0, 0)))) : w.cell? ⟨g, 0, none⟩ = some c ∧ w.cell? ⟨g, 1, none⟩ = some d ∧ w.cell? ⟨g, 2, none⟩ = some e ∧ w.cell? ⟨g, 3, none⟩ = some f ∧ w.frozen? ⟨g, 0, none⟩ = false ∧ w.frozen? ⟨g, 1, none⟩ = false ∧ w.frozen? ⟨g, 2, none⟩ = false ∧ w.frozen? ⟨g, 3, none⟩ = false :=
 ⟨(blk_cell h.out 0).trans rfl, (blk_cell h.out 1).trans rfl, (blk_cell h.out 2).trans rfl, (blk_cell h.out 3).trans rfl, blk_frozen h.out 0, blk_frozen h.out 1, blk_frozen h.out 2, blk_frozen h.out 3⟩
end
section
variable {P : Program} {ops : Array Oper} {Q : Exit → Act → World → Prop} {rest : List Oper} {o : Oper} {a : Act} {W : World}
theorem gc_ (f : FuncId) {ars : Array Operand} {ts : Array TypeId} (_ho : o.op = .call { callee := .value (.func f), args := ars, argTypes := ts }) (h : wpList P ops Q (o :: rest) a W) : wpList P ops Q (o :: rest) a W := h
theorem gd_ (N : Tmp) (_hN : o.dst = some N) (h : wpList P ops Q (o :: rest) a W) : wpList P ops Q (o :: rest) a W := h
theorem gL {f : FuncId} {fn : Func} {ars : Array Operand} {ts : Array TypeId} {args : Array Value} {R : Ending → World → Prop} (N : Tmp) (hf : P.funcs[f]? = some fn)
  (hc : Calls P f args W R) (K : ∀ e w', R e w' → ∃ v, e = .returned v ∧ wpList P ops Q rest (a.put (some N) v) w')
  (hd : o.dst = some N := by rfl) (hg : o.guard = none := by rfl) (hname : (fn.name == "runtime.NumGoroutine") = false := by kernel_rfl) (hb : fn.body.isSome = true := by rfl) (hop : o.op = .call { callee := .value (.func f), args := ars, argTypes := ts } := by rfl)
  (hargs : ars.map a.eval = args := by (try simp only [List.map_toArray, List.map_cons, List.map_nil]); first | done | rfl | (simp only [List.length_drop, List.length_take]; rfl)) : wpList P ops Q (o :: rest) a W :=
 goesL_ (some N) hd hg hf hname hb args hop hargs (hc.mono K)
end
end Go.Proofs.YtihbebbabjklkaaGreatDoor
namespace Go.Proofs
set_option linter.unusedVariables false
open Go.Shelf
def Tryz.lays169_ren : Go.Shelf.Ren := ⟨fun | 169 => 138 | n => n, fun | 70 => 157 | 9 => 9 | 0 => 0 | 72 => 160 | 37 => 158 | 127 => 204 | 3 => 3 | 5 => 5 | n => n, fun | n => n⟩
theorem Tryz.lays169 : Go.Proofs.Lays.n169 Tryz.prog Tryz.lays169_ren := {
 mixed := by kernel_rfl
 f169 := Tryz.func138.trans (congrArg some (by kernel_rfl))
 t0 := Tryz.underlying0
 a0 := Tryz.isAgg0
 z0 := Tryz.sizeOf0
 v0 := Tryz.zeroValue0
 t3 := Tryz.underlying3
 a3 := Tryz.isAgg3
 z3 := Tryz.sizeOf3
 v3 := Tryz.zeroValue3
 t9 := Tryz.underlying9
 a9 := Tryz.isAgg9
 z9 := Tryz.sizeOf9
 v9 := Tryz.zeroValue9
 t37 := Tryz.underlying158
 a37 := Tryz.isAgg158
 z37 := Tryz.sizeOf158
 v37 := Tryz.zeroValue158
 t70 := Tryz.underlying157
 a70 := Tryz.isAgg157
 z70 := Tryz.sizeOf157
 v70 := Tryz.zeroValue157
 t72 := Tryz.underlying160
 a72 := Tryz.isAgg160
 z72 := Tryz.sizeOf160
 v72 := Tryz.zeroValue160
 t127 := Tryz.underlying204
 a127 := Tryz.isAgg204
 z127 := Tryz.sizeOf204
 v127 := Tryz.zeroValue204 }
theorem Tryz.Builder_Extra_169 : Builder.Extra Tryz.prog Tryz.lays169_ren := {
 sizeBuilder := by kernel_rfl
 liesBuilder := by kernel_rfl
 t5 := Tryz.underlying5
 a5 := Tryz.isAgg5
 z5 := Tryz.sizeOf5
 v5 := Tryz.zeroValue5
 infoByte := by kernel_rfl
 cellsByte := by kernel_rfl
 sizeByte := by kernel_rfl
 neB5 := by decide }
def Tryz.lays160_ren : Go.Shelf.Ren := ⟨fun | 160 => 192 | 232 => 211 | 231 => 210 | 227 => 212 | 234 => 214 | 233 => 213 | 236 => 216 | 235 => 215 | 228 => 229 | 271 => 232 | 151 => 231 | 197 => 230 | 120 => 248 | 152 => 247 | 260 => 246 | 137 => 157 | 119 => 255 | 224 => 234 | 225 => 233 | 217 => 199 | 266 => 221 | n => n, fun | 9 => 9 | 4 => 4 | 3 => 3 | 5 => 5 | 117 => 223 | 116 => 222 | 0 => 0 | 124 => 226 | 21 => 21 | 105 => 237 | 46 => 200 | 119 => 260 | 139 => 263 | 138 => 262 | n => n, fun | 3 => 4 | 4 => 5 | n => n⟩
theorem Tryz.lays160 : Go.Proofs.Lays.n160 Tryz.prog Tryz.lays160_ren := {
 mixed := by kernel_rfl
 f119 := Tryz.func255.trans (congrArg some (by kernel_rfl))
 f120 := Tryz.func248.trans (congrArg some (by kernel_rfl))
 f137 := Tryz.func157.trans (congrArg some (by kernel_rfl))
 f151 := Tryz.func231.trans (congrArg some (by kernel_rfl))
 f152 := Tryz.func247.trans (congrArg some (by kernel_rfl))
 f160 := Tryz.func192.trans (congrArg some (by kernel_rfl))
 f197 := Tryz.func230.trans (congrArg some (by kernel_rfl))
 f217 := Tryz.func199.trans (congrArg some (by kernel_rfl))
 f224 := Tryz.func234.trans (congrArg some (by kernel_rfl))
 f225 := Tryz.func233.trans (congrArg some (by kernel_rfl))
 f227 := Tryz.func212.trans (congrArg some (by kernel_rfl))
 f228 := Tryz.func229.trans (congrArg some (by kernel_rfl))
 f231 := Tryz.func210.trans (congrArg some (by kernel_rfl))
 f232 := Tryz.func211.trans (congrArg some (by kernel_rfl))
 f233 := Tryz.func213.trans (congrArg some (by kernel_rfl))
 f234 := Tryz.func214.trans (congrArg some (by kernel_rfl))
 f235 := Tryz.func215.trans (congrArg some (by kernel_rfl))
 f236 := Tryz.func216.trans (congrArg some (by kernel_rfl))
 f260 := Tryz.func246.trans (congrArg some (by kernel_rfl))
 f266 := Tryz.func221.trans (congrArg some (by kernel_rfl))
 f271 := Tryz.func232.trans (congrArg some (by kernel_rfl))
 t0 := Tryz.underlying0
 a0 := Tryz.isAgg0
 z0 := Tryz.sizeOf0
 v0 := Tryz.zeroValue0
 t3 := Tryz.underlying3
 a3 := Tryz.isAgg3
 z3 := Tryz.sizeOf3
 v3 := Tryz.zeroValue3
 t4 := Tryz.underlying4
 a4 := Tryz.isAgg4
 z4 := Tryz.sizeOf4
 v4 := Tryz.zeroValue4
 t5 := Tryz.underlying5
 a5 := Tryz.isAgg5
 z5 := Tryz.sizeOf5
 v5 := Tryz.zeroValue5
 t9 := Tryz.underlying9
 a9 := Tryz.isAgg9
 z9 := Tryz.sizeOf9
 v9 := Tryz.zeroValue9
 t21 := Tryz.underlying21
 a21 := Tryz.isAgg21
 z21 := Tryz.sizeOf21
 v21 := Tryz.zeroValue21
 t46 := Tryz.underlying200
 a46 := Tryz.isAgg200
 z46 := Tryz.sizeOf200
 v46 := Tryz.zeroValue200
 t105 := Tryz.underlying237
 a105 := Tryz.isAgg237
 z105 := Tryz.sizeOf237
 v105 := Tryz.zeroValue237
 t116 := Tryz.underlying222
 a116 := Tryz.isAgg222
 z116 := Tryz.sizeOf222
 t117 := Tryz.underlying223
 a117 := Tryz.isAgg223
 z117 := Tryz.sizeOf223
 v117 := Tryz.zeroValue223
 t119 := Tryz.underlying260
 a119 := Tryz.isAgg260
 z119 := Tryz.sizeOf260
 t124 := Tryz.underlying226
 a124 := Tryz.isAgg226
 z124 := Tryz.sizeOf226
 v124 := Tryz.zeroValue226
 t138 := Tryz.underlying262
 a138 := Tryz.isAgg262
 z138 := Tryz.sizeOf262
 v138 := Tryz.zeroValue262
 t139 := Tryz.underlying263
 a139 := Tryz.isAgg263
 z139 := Tryz.sizeOf263
 v139 := Tryz.zeroValue263
 g3 := by kernel_rfl
 g4 := by kernel_rfl }
def Tryz.lays137_ren : Go.Shelf.Ren := ⟨fun | 137 => 157 | 217 => 199 | 266 => 221 | n => n, fun | 9 => 9 | 5 => 5 | 3 => 3 | n => n, fun | n => n⟩
theorem Tryz.lays137 : Go.Proofs.Lays.n137 Tryz.prog Tryz.lays137_ren := {
 mixed := by kernel_rfl
 f137 := Tryz.func157.trans (congrArg some (by kernel_rfl))
 f217 := Tryz.func199.trans (congrArg some (by kernel_rfl))
 f266 := Tryz.func221.trans (congrArg some (by kernel_rfl))
 t3 := Tryz.underlying3
 a3 := Tryz.isAgg3
 z3 := Tryz.sizeOf3
 v3 := Tryz.zeroValue3
 t5 := Tryz.underlying5
 a5 := Tryz.isAgg5
 z5 := Tryz.sizeOf5
 v5 := Tryz.zeroValue5
 t9 := Tryz.underlying9
 a9 := Tryz.isAgg9
 z9 := Tryz.sizeOf9
 v9 := Tryz.zeroValue9 }
open Go.RowKit in
theorem Tryz.strings_IndexByte (s : ByteArray) (c : Int) (w : World) :
  Calls Tryz.prog 157 #[.string s, .int .u8 c] w fun e w' => e = .returned (.int .i64 (Lib.indexByte s.data.toList c.toNat.toUInt8)) ∧ w' = w := Any.strings_IndexByte Tryz.lays137 s c w
def Tryz.lays103_ren : Go.Shelf.Ren := ⟨fun | 103 => 178 | 210 => 201 | 206 => 193 | n => n, fun | 9 => 9 | 4 => 4 | 24 => 193 | 3 => 3 | n => n, fun | n => n⟩
theorem Tryz.lays103 : Go.Proofs.Lays.n103 Tryz.prog Tryz.lays103_ren := {
 mixed := by kernel_rfl
 f103 := Tryz.func178.trans (congrArg some (by kernel_rfl))
 f206 := Tryz.func193.trans (congrArg some (by kernel_rfl))
 f210 := Tryz.func201.trans (congrArg some (by kernel_rfl))
 t3 := Tryz.underlying3
 a3 := Tryz.isAgg3
 z3 := Tryz.sizeOf3
 v3 := Tryz.zeroValue3
 t4 := Tryz.underlying4
 a4 := Tryz.isAgg4
 z4 := Tryz.sizeOf4
 v4 := Tryz.zeroValue4
 t9 := Tryz.underlying9
 a9 := Tryz.isAgg9
 z9 := Tryz.sizeOf9
 v9 := Tryz.zeroValue9
 t24 := Tryz.underlying193
 a24 := Tryz.isAgg193
 z24 := Tryz.sizeOf193
 v24 := Tryz.zeroValue193 }
open Go.RowKit in
theorem Tryz.strings_CutPrefix (s p : ByteArray) (w : World) :
  Calls Tryz.prog 178 #[.string s, .string p] w fun e w' => e = .returned (.tuple #[.string ⟨(Lib.trimPrefix s.data.toList p.data.toList).toArray⟩, .bool (Lib.hasPrefix s.data.toList p.data.toList)]) ∧ w' = w := Any.strings_CutPrefix Tryz.lays103 s p w
open Go.RowKit in
theorem Tryz.Builder_String_any_k (B b : Nat) (l : List UInt8) (w : World) (h : Lib.IsBuilderF 160 5 B b (Lib.byteCells l) w) (hBw : B ≤ w.heap.size) :
  Calls Tryz.prog 138 #[.pointer (some ⟨b, 0, none⟩)] w fun e w' => e = .returned (.string ⟨l.toArray⟩) ∧ (Lib.IsBuilderF 160 5 B b (Lib.byteCells l) w' ∧ Below B w w' ∧ Lib.OthersKept 5 (some b) w w') := Any.Builder_String_any_k Tryz.lays169 Tryz.Builder_Extra_169 B b l w h hBw
def Tryz.lays172_ren : Go.Shelf.Ren := ⟨fun | 172 => 204 | 244 => 222 | 245 => 223 | 247 => 236 | 279 => 237 | 280 => 238 | 281 => 239 | 282 => 240 | 287 => 250 | 316 => 251 | 171 => 135 | 205 => 252 | 321 => 256 | 322 => 257 | 243 => 183 | 246 => 206 | 283 => 224 | 284 => 225 | 285 => 226 | 286 => 227 | 129 => 242 | 317 => 241 | 318 => 243 | 319 => 244 | 320 => 245 | 337 => 253 | 338 => 254 | n => n, fun | 9 => 9 | 3 => 3 | 75 => 162 | 76 => 168 | 4 => 4 | 5 => 5 | 167 => 241 | 37 => 158 | 0 => 0 | 85 => 242 | 2 => 2 | 168 => 244 | 53 => 217 | 175 => 253 | 46 => 200 | 210 => 257 | 127 => 204 | 145 => 268 | 143 => 266 | 21 => 21 | 171 => 230 | 173 => 233 | 212 => 248 | 51 => 214 | 20 => 20 | 213 => 249 | 232 => 269 | 233 => 270 | 80 => 171 | n => n, fun | 15 => 2 | 16 => 3 | 17 => 1 | 18 => 6 | 19 => 7 | n => n⟩
theorem Tryz.lays172 : Go.Proofs.Lays.n172 Tryz.prog Tryz.lays172_ren := {
 mixed := by kernel_rfl
 f129 := Tryz.func242.trans (congrArg some (by kernel_rfl))
 f171 := Tryz.func135.trans (congrArg some (by kernel_rfl))
 f172 := Tryz.func204.trans (congrArg some (by kernel_rfl))
 f205 := Tryz.func252.trans (congrArg some (by kernel_rfl))
 f243 := Tryz.func183.trans (congrArg some (by kernel_rfl))
 f244 := Tryz.func222.trans (congrArg some (by kernel_rfl))
 f245 := Tryz.func223.trans (congrArg some (by kernel_rfl))
 f246 := Tryz.func206.trans (congrArg some (by kernel_rfl))
 f247 := Tryz.func236.trans (congrArg some (by kernel_rfl))
 f279 := Tryz.func237.trans (congrArg some (by kernel_rfl))
 f280 := Tryz.func238.trans (congrArg some (by kernel_rfl))
 f281 := Tryz.func239.trans (congrArg some (by kernel_rfl))
 f282 := Tryz.func240.trans (congrArg some (by kernel_rfl))
 f283 := Tryz.func224.trans (congrArg some (by kernel_rfl))
 f284 := Tryz.func225.trans (congrArg some (by kernel_rfl))
 f285 := Tryz.func226.trans (congrArg some (by kernel_rfl))
 f286 := Tryz.func227.trans (congrArg some (by kernel_rfl))
 f287 := Tryz.func250.trans (congrArg some (by kernel_rfl))
 f316 := Tryz.func251.trans (congrArg some (by kernel_rfl))
 f317 := Tryz.func241.trans (congrArg some (by kernel_rfl))
 f318 := Tryz.func243.trans (congrArg some (by kernel_rfl))
 f319 := Tryz.func244.trans (congrArg some (by kernel_rfl))
 f320 := Tryz.func245.trans (congrArg some (by kernel_rfl))
 f321 := Tryz.func256.trans (congrArg some (by kernel_rfl))
 f322 := Tryz.func257.trans (congrArg some (by kernel_rfl))
 f337 := Tryz.func253.trans (congrArg some (by kernel_rfl))
 f338 := Tryz.func254.trans (congrArg some (by kernel_rfl))
 t0 := Tryz.underlying0
 a0 := Tryz.isAgg0
 z0 := Tryz.sizeOf0
 v0 := Tryz.zeroValue0
 t2 := Tryz.underlying2
 a2 := Tryz.isAgg2
 z2 := Tryz.sizeOf2
 v2 := Tryz.zeroValue2
 t3 := Tryz.underlying3
 a3 := Tryz.isAgg3
 z3 := Tryz.sizeOf3
 v3 := Tryz.zeroValue3
 t4 := Tryz.underlying4
 a4 := Tryz.isAgg4
 z4 := Tryz.sizeOf4
 v4 := Tryz.zeroValue4
 t5 := Tryz.underlying5
 a5 := Tryz.isAgg5
 z5 := Tryz.sizeOf5
 v5 := Tryz.zeroValue5
 t9 := Tryz.underlying9
 a9 := Tryz.isAgg9
 z9 := Tryz.sizeOf9
 v9 := Tryz.zeroValue9
 t20 := Tryz.underlying20
 a20 := Tryz.isAgg20
 z20 := Tryz.sizeOf20
 v20 := Tryz.zeroValue20
 t21 := Tryz.underlying21
 a21 := Tryz.isAgg21
 z21 := Tryz.sizeOf21
 v21 := Tryz.zeroValue21
 t37 := Tryz.underlying158
 a37 := Tryz.isAgg158
 z37 := Tryz.sizeOf158
 v37 := Tryz.zeroValue158
 t46 := Tryz.underlying200
 a46 := Tryz.isAgg200
 z46 := Tryz.sizeOf200
 v46 := Tryz.zeroValue200
 t51 := Tryz.underlying214
 a51 := Tryz.isAgg214
 z51 := Tryz.sizeOf214
 v51 := Tryz.zeroValue214
 t53 := Tryz.underlying217
 a53 := Tryz.isAgg217
 z53 := Tryz.sizeOf217
 v53 := Tryz.zeroValue217
 t75 := Tryz.underlying162
 a75 := Tryz.isAgg162
 z75 := Tryz.sizeOf162
 v75 := Tryz.zeroValue162
 t76 := Tryz.underlying168
 a76 := Tryz.isAgg168
 z76 := Tryz.sizeOf168
 v76 := Tryz.zeroValue168
 t85 := Tryz.underlying242
 a85 := Tryz.isAgg242
 z85 := Tryz.sizeOf242
 v85 := Tryz.zeroValue242
 t127 := Tryz.underlying204
 a127 := Tryz.isAgg204
 z127 := Tryz.sizeOf204
 v127 := Tryz.zeroValue204
 t143 := Tryz.underlying266
 a143 := Tryz.isAgg266
 z143 := Tryz.sizeOf266
 v143 := Tryz.zeroValue266
 t145 := Tryz.underlying268
 a145 := Tryz.isAgg268
 z145 := Tryz.sizeOf268
 v145 := Tryz.zeroValue268
 t167 := Tryz.underlying241
 a167 := Tryz.isAgg241
 z167 := Tryz.sizeOf241
 v167 := Tryz.zeroValue241
 t168 := Tryz.underlying244
 a168 := Tryz.isAgg244
 z168 := Tryz.sizeOf244
 v168 := Tryz.zeroValue244
 t171 := Tryz.underlying230
 a171 := Tryz.isAgg230
 z171 := Tryz.sizeOf230
 v171 := Tryz.zeroValue230
 t173 := Tryz.underlying233
 a173 := Tryz.isAgg233
 z173 := Tryz.sizeOf233
 v173 := Tryz.zeroValue233
 t175 := Tryz.underlying253
 a175 := Tryz.isAgg253
 z175 := Tryz.sizeOf253
 v175 := Tryz.zeroValue253
 t210 := Tryz.underlying257
 a210 := Tryz.isAgg257
 z210 := Tryz.sizeOf257
 v210 := Tryz.zeroValue257
 t212 := Tryz.underlying248
 a212 := Tryz.isAgg248
 z212 := Tryz.sizeOf248
 v212 := Tryz.zeroValue248
 t213 := Tryz.underlying249
 a213 := Tryz.isAgg249
 z213 := Tryz.sizeOf249
 t232 := Tryz.underlying269
 a232 := Tryz.isAgg269
 z232 := Tryz.sizeOf269
 v232 := Tryz.zeroValue269
 t233 := Tryz.underlying270
 a233 := Tryz.isAgg270
 z233 := Tryz.sizeOf270
 v233 := Tryz.zeroValue270
 g15 := by kernel_rfl
 g16 := by kernel_rfl
 g17 := by kernel_rfl
 g18 := by kernel_rfl
 g19 := by kernel_rfl }
open Go.RowKit in
theorem Tryz.strconv_Atoi (s : ByteArray) (n : Int) (hl : s.size ≤ 18) (h : Lib.atoi s.data.toList = some n) (w : World) :
  Calls Tryz.prog 204 #[.string s] w fun e w' => e = .returned (.tuple #[.int .i64 n, .nilIface]) ∧ ∃ t, w' = Lib.bytesWorld w 5 t := Any.strconv_Atoi Tryz.lays172 s n hl h w
def Tryz.laysM171_ren : Go.Shelf.Ren := ⟨fun | 171 => 135 | 243 => 183 | 246 => 206 | 283 => 224 | 284 => 225 | 285 => 226 | 286 => 227 | 129 => 242 | 317 => 241 | 318 => 243 | 319 => 244 | 320 => 245 | 337 => 253 | 338 => 254 | n => n, fun | 3 => 3 | 9 => 9 | 2 => 2 | 4 => 4 | 171 => 230 | 0 => 0 | 53 => 217 | 37 => 158 | 5 => 5 | 173 => 233 | 212 => 248 | 51 => 214 | 20 => 20 | 213 => 249 | 46 => 200 | 232 => 269 | 233 => 270 | n => n, fun | 17 => 1 | 18 => 6 | 19 => 7 | n => n⟩
theorem Tryz.laysM171 : Go.Proofs.LaysM.n171 Tryz.prog Tryz.laysM171_ren := {
 mixed := by kernel_rfl
 f129 := Tryz.func242.trans (congrArg some (by kernel_rfl))
 f171 := Tryz.func135.trans (congrArg some (by kernel_rfl))
 f243 := Tryz.func183.trans (congrArg some (by kernel_rfl))
 f246 := Tryz.func206.trans (congrArg some (by kernel_rfl))
 f283 := Tryz.func224.trans (congrArg some (by kernel_rfl))
 f284 := Tryz.func225.trans (congrArg some (by kernel_rfl))
 f285 := Tryz.func226.trans (congrArg some (by kernel_rfl))
 f286 := Tryz.func227.trans (congrArg some (by kernel_rfl))
 f317 := Tryz.func241.trans (congrArg some (by kernel_rfl))
 f318 := Tryz.func243.trans (congrArg some (by kernel_rfl))
 f319 := Tryz.func244.trans (congrArg some (by kernel_rfl))
 f320 := Tryz.func245.trans (congrArg some (by kernel_rfl))
 f337 := Tryz.func253.trans (congrArg some (by kernel_rfl))
 f338 := Tryz.func254.trans (congrArg some (by kernel_rfl))
 t0 := Tryz.underlying0
 a0 := Tryz.isAgg0
 z0 := Tryz.sizeOf0
 v0 := Tryz.zeroValue0
 t2 := Tryz.underlying2
 a2 := Tryz.isAgg2
 z2 := Tryz.sizeOf2
 v2 := Tryz.zeroValue2
 t3 := Tryz.underlying3
 a3 := Tryz.isAgg3
 z3 := Tryz.sizeOf3
 v3 := Tryz.zeroValue3
 t4 := Tryz.underlying4
 a4 := Tryz.isAgg4
 z4 := Tryz.sizeOf4
 v4 := Tryz.zeroValue4
 t5 := Tryz.underlying5
 a5 := Tryz.isAgg5
 z5 := Tryz.sizeOf5
 v5 := Tryz.zeroValue5
 t9 := Tryz.underlying9
 a9 := Tryz.isAgg9
 z9 := Tryz.sizeOf9
 v9 := Tryz.zeroValue9
 t20 := Tryz.underlying20
 a20 := Tryz.isAgg20
 z20 := Tryz.sizeOf20
 v20 := Tryz.zeroValue20
 t37 := Tryz.underlying158
 a37 := Tryz.isAgg158
 z37 := Tryz.sizeOf158
 v37 := Tryz.zeroValue158
 t46 := Tryz.underlying200
 a46 := Tryz.isAgg200
 z46 := Tryz.sizeOf200
 v46 := Tryz.zeroValue200
 t51 := Tryz.underlying214
 a51 := Tryz.isAgg214
 z51 := Tryz.sizeOf214
 v51 := Tryz.zeroValue214
 t53 := Tryz.underlying217
 a53 := Tryz.isAgg217
 z53 := Tryz.sizeOf217
 v53 := Tryz.zeroValue217
 t171 := Tryz.underlying230
 a171 := Tryz.isAgg230
 z171 := Tryz.sizeOf230
 v171 := Tryz.zeroValue230
 t173 := Tryz.underlying233
 a173 := Tryz.isAgg233
 z173 := Tryz.sizeOf233
 v173 := Tryz.zeroValue233
 t212 := Tryz.underlying248
 a212 := Tryz.isAgg248
 z212 := Tryz.sizeOf248
 v212 := Tryz.zeroValue248
 t213 := Tryz.underlying249
 a213 := Tryz.isAgg249
 z213 := Tryz.sizeOf249
 t232 := Tryz.underlying269
 a232 := Tryz.isAgg269
 z232 := Tryz.sizeOf269
 v232 := Tryz.zeroValue269
 t233 := Tryz.underlying270
 a233 := Tryz.isAgg270
 z233 := Tryz.sizeOf270
 v233 := Tryz.zeroValue270
 g17 := by kernel_rfl
 g18 := by kernel_rfl
 g19 := by kernel_rfl
 i0 := by kernel_rfl
 i2 := by kernel_rfl
 i3 := by kernel_rfl
 i4 := by kernel_rfl
 i5 := by kernel_rfl
 i9 := by kernel_rfl
 i20 := by kernel_rfl
 i37 := by kernel_rfl
 i46 := by kernel_rfl
 i51 := by kernel_rfl
 i53 := by kernel_rfl
 i171 := by kernel_rfl
 i173 := by kernel_rfl
 i212 := by kernel_rfl
 i232 := by kernel_rfl
 i233 := by kernel_rfl
 m17 := by kernel_rfl
 m18 := by kernel_rfl
 m19 := by kernel_rfl }
open Go.RowKit Go.Sort Go.Lib in
theorem Tryz.strconv_Itoa (n : Int) (h0 : -9223372036854775808 ≤ n) (h1 : n ≤ 9223372036854775807) (w : World) (htab : Lib.TabIs Tryz.prog w "internal/strconv.uint64pow10" .u64 Lib.pow10Tab) :
  Calls Tryz.prog 135 #[.int .i64 n] w fun e w' => e = .returned (.string ⟨(Lib.itoa n).toArray⟩) ∧ ∃ k os, w' = grow (w.drewN k) os := Any.strconv_Itoa Tryz.laysM171 n h0 h1 w htab
def Tryz.lays144_ren : Go.Shelf.Ren := ⟨fun | 144 => 153 | 143 => 196 | 219 => 218 | 217 => 199 | 225 => 233 | 224 => 234 | 267 => 235 | 266 => 221 | 314 => 249 | n => n, fun | 9 => 9 | 4 => 4 | 3 => 3 | 5 => 5 | 46 => 200 | 146 => 215 | 51 => 214 | n => n, fun | 1 => 0 | n => n⟩
theorem Tryz.lays144 : Go.Proofs.Lays.n144 Tryz.prog Tryz.lays144_ren := {
 mixed := by kernel_rfl
 f143 := Tryz.func196.trans (congrArg some (by kernel_rfl))
 f144 := Tryz.func153.trans (congrArg some (by kernel_rfl))
 f217 := Tryz.func199.trans (congrArg some (by kernel_rfl))
 f219 := Tryz.func218.trans (congrArg some (by kernel_rfl))
 f224 := Tryz.func234.trans (congrArg some (by kernel_rfl))
 f225 := Tryz.func233.trans (congrArg some (by kernel_rfl))
 f266 := Tryz.func221.trans (congrArg some (by kernel_rfl))
 f267 := Tryz.func235.trans (congrArg some (by kernel_rfl))
 f314 := Tryz.func249.trans (congrArg some (by kernel_rfl))
 t3 := Tryz.underlying3
 a3 := Tryz.isAgg3
 z3 := Tryz.sizeOf3
 v3 := Tryz.zeroValue3
 t4 := Tryz.underlying4
 a4 := Tryz.isAgg4
 z4 := Tryz.sizeOf4
 v4 := Tryz.zeroValue4
 t5 := Tryz.underlying5
 a5 := Tryz.isAgg5
 z5 := Tryz.sizeOf5
 v5 := Tryz.zeroValue5
 t9 := Tryz.underlying9
 a9 := Tryz.isAgg9
 z9 := Tryz.sizeOf9
 v9 := Tryz.zeroValue9
 t46 := Tryz.underlying200
 a46 := Tryz.isAgg200
 z46 := Tryz.sizeOf200
 v46 := Tryz.zeroValue200
 t51 := Tryz.underlying214
 a51 := Tryz.isAgg214
 z51 := Tryz.sizeOf214
 v51 := Tryz.zeroValue214
 t146 := Tryz.underlying215
 a146 := Tryz.isAgg215
 z146 := Tryz.sizeOf215
 v146 := Tryz.zeroValue215
 g1 := by kernel_rfl }
open Go.RowKit Go.Lib in
theorem Tryz.strings_Contains_one (s : ByteArray) (c : UInt8) (w : World) :
  Calls Tryz.prog 153 #[.string s, .string ⟨#[c]⟩] w fun e w' => e = .returned (.bool (decide (0 ≤ Lib.indexByte s.data.toList c))) ∧ w' = w := Any.strings_Contains_one Tryz.lays144 s c w
def Tryz.lays105_ren : Go.Shelf.Ren := ⟨fun | 105 => 137 | 212 => 184 | 99 => 185 | 165 => 186 | 166 => 136 | 170 => 187 | 169 => 138 | 263 => 207 | 264 => 208 | 206 => 193 | 240 => 181 | 241 => 209 | 276 => 205 | 277 => 228 | n => n, fun | 9 => 9 | 3 => 3 | 4 => 4 | 20 => 20 | 0 => 0 | 46 => 200 | 109 => 201 | 5 => 5 | 72 => 160 | 76 => 168 | 51 => 214 | 146 => 215 | 53 => 217 | 148 => 218 | 70 => 157 | 37 => 158 | 75 => 162 | 127 => 204 | 164 => 211 | 80 => 171 | n => n, fun | n => n⟩
theorem Tryz.lays105 : Go.Proofs.Lays.n105 Tryz.prog Tryz.lays105_ren := {
 mixed := by kernel_rfl
 f99 := Tryz.func185.trans (congrArg some (by kernel_rfl))
 f105 := Tryz.func137.trans (congrArg some (by kernel_rfl))
 f165 := Tryz.func186.trans (congrArg some (by kernel_rfl))
 f166 := Tryz.func136.trans (congrArg some (by kernel_rfl))
 f169 := Tryz.func138.trans (congrArg some (by kernel_rfl))
 f170 := Tryz.func187.trans (congrArg some (by kernel_rfl))
 f206 := Tryz.func193.trans (congrArg some (by kernel_rfl))
 f212 := Tryz.func184.trans (congrArg some (by kernel_rfl))
 f240 := Tryz.func181.trans (congrArg some (by kernel_rfl))
 f241 := Tryz.func209.trans (congrArg some (by kernel_rfl))
 f263 := Tryz.func207.trans (congrArg some (by kernel_rfl))
 f264 := Tryz.func208.trans (congrArg some (by kernel_rfl))
 f276 := Tryz.func205.trans (congrArg some (by kernel_rfl))
 f277 := Tryz.func228.trans (congrArg some (by kernel_rfl))
 t0 := Tryz.underlying0
 a0 := Tryz.isAgg0
 z0 := Tryz.sizeOf0
 v0 := Tryz.zeroValue0
 t3 := Tryz.underlying3
 a3 := Tryz.isAgg3
 z3 := Tryz.sizeOf3
 v3 := Tryz.zeroValue3
 t4 := Tryz.underlying4
 a4 := Tryz.isAgg4
 z4 := Tryz.sizeOf4
 v4 := Tryz.zeroValue4
 t5 := Tryz.underlying5
 a5 := Tryz.isAgg5
 z5 := Tryz.sizeOf5
 v5 := Tryz.zeroValue5
 t9 := Tryz.underlying9
 a9 := Tryz.isAgg9
 z9 := Tryz.sizeOf9
 v9 := Tryz.zeroValue9
 t20 := Tryz.underlying20
 a20 := Tryz.isAgg20
 z20 := Tryz.sizeOf20
 v20 := Tryz.zeroValue20
 t37 := Tryz.underlying158
 a37 := Tryz.isAgg158
 z37 := Tryz.sizeOf158
 v37 := Tryz.zeroValue158
 t46 := Tryz.underlying200
 a46 := Tryz.isAgg200
 z46 := Tryz.sizeOf200
 v46 := Tryz.zeroValue200
 t51 := Tryz.underlying214
 a51 := Tryz.isAgg214
 z51 := Tryz.sizeOf214
 v51 := Tryz.zeroValue214
 t53 := Tryz.underlying217
 a53 := Tryz.isAgg217
 z53 := Tryz.sizeOf217
 v53 := Tryz.zeroValue217
 t70 := Tryz.underlying157
 a70 := Tryz.isAgg157
 z70 := Tryz.sizeOf157
 v70 := Tryz.zeroValue157
 t72 := Tryz.underlying160
 a72 := Tryz.isAgg160
 z72 := Tryz.sizeOf160
 v72 := Tryz.zeroValue160
 t75 := Tryz.underlying162
 a75 := Tryz.isAgg162
 z75 := Tryz.sizeOf162
 v75 := Tryz.zeroValue162
 t76 := Tryz.underlying168
 a76 := Tryz.isAgg168
 z76 := Tryz.sizeOf168
 v76 := Tryz.zeroValue168
 t109 := Tryz.underlying201
 a109 := Tryz.isAgg201
 z109 := Tryz.sizeOf201
 v109 := Tryz.zeroValue201
 t127 := Tryz.underlying204
 a127 := Tryz.isAgg204
 z127 := Tryz.sizeOf204
 v127 := Tryz.zeroValue204
 t146 := Tryz.underlying215
 a146 := Tryz.isAgg215
 z146 := Tryz.sizeOf215
 v146 := Tryz.zeroValue215
 t148 := Tryz.underlying218
 a148 := Tryz.isAgg218
 z148 := Tryz.sizeOf218
 v148 := Tryz.zeroValue218
 t164 := Tryz.underlying211
 a164 := Tryz.isAgg211
 z164 := Tryz.sizeOf211
 v164 := Tryz.zeroValue211 }
theorem Tryz.Builder_Extra_105 : Builder.Extra Tryz.prog Tryz.lays105_ren := {
 sizeBuilder := by kernel_rfl
 liesBuilder := by kernel_rfl
 t5 := Tryz.underlying5
 a5 := Tryz.isAgg5
 z5 := Tryz.sizeOf5
 v5 := Tryz.zeroValue5
 infoByte := by kernel_rfl
 cellsByte := by kernel_rfl
 sizeByte := by kernel_rfl
 neB5 := by decide }
open Go.RowKit Go.Lib in
theorem Tryz.strings_Repeat (s : ByteArray) (c : Nat) (w : World) (hc : c ≤ 9223372036854775807) (hlen : s.size * c ≤ 140737488355328) :
  Calls Tryz.prog 137 #[.string s, .int .i64 c] w fun e w' => e = .returned (.string ⟨(Lib.repeatL s.data.toList c).toArray⟩) ∧ Below w.heap.size w w' := Any.strings_Repeat Tryz.lays105 Tryz.Builder_Extra_105 s c w hc hlen
open Go.RowKit Go.Lib in
theorem Tryz.strings_Trim_laid (s cutset : ByteArray) (w : World) (hs : s.size ≤ 9223372036854775807) (hcs : cutset.size < 4294967281) (hascii : ∀ (j : Nat) (b : UInt8), cutset.data.toList[j]? = some b → b.toNat < 128) :
  Calls Tryz.prog 192 #[.string s, .string cutset] w fun e w' => e = .returned (.string ⟨(Lib.trimS s.data.toList cutset.data.toList).toArray⟩) ∧ Below w.heap.size w w' := Any.strings_Trim_laid Tryz.lays160 (by kernel_rfl) s cutset w hs hcs hascii
end Go.Proofs
namespace Go.Proofs.YtihbebbabjklkaaGreatDoor
set_option linter.unusedVariables false
open Go.RowKit Go.Shelf
def LaidW (w : World) : Prop := Lib.TabIs Tryz.prog w "internal/strconv.uint64pow10" .u64 Lib.pow10Tab
theorem LaidW.below {w W : World} (h : LaidW w) (hb : Below w.heap.size w W) : LaidW W := (Lib.tabBelow_of_tabIs h).on hb |>.here
theorem strings_IndexByte.calls (a0 : ByteArray) (a1 : Int) (r : Int) (w : World) (h : strings_IndexByte.f a0 a1 = some r) :
  Calls Tryz.prog 157 #[.string a0, .int .u8 a1] w fun e w' => e = .returned (.int .i64 r) ∧ Below w.heap.size w w' := by
 obtain rfl := Option.some.inj h
 exact (Tryz.strings_IndexByte a0 a1 w).mono fun e w' h => ⟨h.1, by rw [h.2]; exact Below.refl _ _⟩
theorem strings_Contains.calls (a0 : ByteArray) (a1 : ByteArray) (r : Bool) (w : World) (h : strings_Contains.f a0 a1 = some r) :
  Calls Tryz.prog 153 #[.string a0, .string a1] w fun e w' => e = .returned (.bool r) ∧ Below w.heap.size w w' := by
 obtain ⟨⟨l⟩⟩ := a1
 unfold strings_Contains.f at h
 simp only at h
 split at h
 ·obtain rfl := Option.some.inj h
  rename_i c
  exact (Tryz.strings_Contains_one a0 c w).mono fun e w' h => ⟨h.1, by rw [h.2]; exact Below.refl _ _⟩
 cases h
theorem strings_CutPrefix.calls (a0 : ByteArray) (a1 : ByteArray) (r1 : ByteArray) (r2 : Bool) (w : World) (h : strings_CutPrefix.f a0 a1 = some (r1, r2)) :
  Calls Tryz.prog 178 #[.string a0, .string a1] w fun e w' => e = .returned (.tuple #[.string r1, .bool r2]) ∧ Below w.heap.size w w' := by
 have h2 := Option.some.inj h
 obtain ⟨rfl, rfl⟩ := Prod.mk.inj h2
 exact (Tryz.strings_CutPrefix a0 a1 w).mono fun e w' h => ⟨h.1, by rw [h.2]; exact Below.refl _ _⟩
theorem strings_Trim.calls (a0 : ByteArray) (a1 : ByteArray) (r : ByteArray) (w : World) (h : strings_Trim.f a0 a1 = some r) :
  Calls Tryz.prog 192 #[.string a0, .string a1] w fun e w' => e = .returned (.string r) ∧ Below w.heap.size w w' := by
 unfold strings_Trim.f at h
 split at h
 ·rename_i hc
  obtain rfl := Option.some.inj h
  refine Tryz.strings_Trim_laid a0 a1 w hc.1 hc.2.1 fun j b hj => ?_
  have := List.all_eq_true.1 hc.2.2 b (List.mem_of_getElem? hj)
  simpa using this
 cases h
theorem decDigits_txtN : ∀ n : Nat, Lib.decDigits n = Sv.txtN n := by
 intro n
 induction n using Nat.strongRecOn with
 | ind n ih =>
  rw [Lib.decDigits]
  by_cases h : n < 10
  ·rw [dif_pos h]
   unfold Sv.txtN
   by_cases h0 : n = 0
   ·subst h0; rfl
   rw [if_neg h0, Sv.dg_pos (by decide) (by omega), Nat.mod_eq_of_lt h, Nat.div_eq_of_lt h, Sv.dg_zero]
   simp [Sv.dch]
  rw [dif_neg h, ih (n / 10) (by omega)]
  have h0 : n ≠ 0 := by omega
  have h1 : n / 10 ≠ 0 := by omega
  unfold Sv.txtN
  rw [if_neg h0, if_neg h1, Sv.dg_pos (b := 10) (n := n) (by decide) (by omega)]
  simp [Sv.dch]
  congr 1
theorem itoa_txtL (n : Int) : Lib.itoa n = Sv.txtL n := by
 unfold Lib.itoa Sv.txtL
 split
 ·rw [decDigits_txtN]
 rename_i h
 rw [decDigits_txtN]
 congr 1
 omega
theorem strconv_Itoa.calls (a0 : Int) (r : ByteArray) (w : World) (hL : LaidW w) (h : strconv_Itoa.f a0 = some r) :
  Calls Tryz.prog 135 #[.int .i64 a0] w fun e w' => e = .returned (.string r) ∧ Below w.heap.size w w' := by
 unfold strconv_Itoa.f at h
 split at h
 ·rename_i hc
  obtain rfl := Option.some.inj h
  refine (Tryz.strconv_Itoa a0 hc.1 hc.2 w hL).mono fun e w' h => ⟨?_, ?_⟩
  ·rw [h.1, itoa_txtL]; rfl
  obtain ⟨k, os, rfl⟩ := h.2
  exact Lib.below_grow _ _ (Nat.le_refl _) _ _
 cases h
end Go.Proofs.YtihbebbabjklkaaGreatDoor
namespace Go.Proofs.YtihbebbabjklkaaGreatDoor.PA
set_option linter.unusedVariables false
open Go.RowKit Go.Proofs.WWords Go.Proofs.WLast Go.Proofs.WMore
attribute [local go_sem] max2_int min2_int max_two min_two max_three min_three max_four min_four
set_option linter.unusedSimpArgs false
def errW : Option Int → Value
  | none => .nilIface
  | some c => .iface 0 (.int .i64 c)
theorem errW_none : errW none = .nilIface := rfl
theorem errW_some (c : Int) : errW (some c) = .iface 0 (.int .i64 c) := rfl
theorem info3 : (Tryz.prog.info? 3).map (fun i => (i.zero, i.size, i.bytes)) = some (some (.int .i64 0), 1, 8) := by kernel_rfl
theorem info5 : (Tryz.prog.info? 5).map (fun i => (i.zero, i.size, i.bytes)) = some (some (.int .u8 0), 1, 1) := by kernel_rfl
set_option linter.unusedVariables false
class Ctr (f : FuncId) (T : outParam Prop) : Prop where
  pf : T
  hf : ∃ fn, Tryz.prog.funcs[f]? = some fn ∧ (fn.name == "runtime.NumGoroutine") = false ∧ fn.body.isSome = true
theorem drB {f : FuncId} {args : Array Value} {w : World} {x : Ending} (h : Calls Tryz.prog f args w fun e w' => e = x ∧ Drawn0 w w') : Calls Tryz.prog f args w fun e w' => e = x ∧ Below w.heap.size w w' :=
  h.mono fun _ _ h => ⟨h.1, h.2.below⟩
section
variable {ops : Array Oper} {Q : Exit → Act → World → Prop} {rest : List Oper} {o : Oper} {a : Act} {W : World}
theorem cG {f : FuncId} {ars : Array Operand} {ts : Array TypeId} {args : Array Value} {v : Value} {N : Option Tmp} {T : Prop}
  (hop : o.op = .call { callee := .value (.func f), args := ars, argTypes := ts }) [c : Ctr f T]
  (K : ∀ w', Below W.heap.size W w' → wpList Tryz.prog ops Q rest (a.put N v) w')
  (hd : o.dst = N := by rfl) (hg : o.guard = none := by rfl)
  (hargs : ars.map a.eval = args := by (try simp only [List.map_toArray, List.map_cons, List.map_nil]); first | done | rfl | (simp only [List.length_drop, List.length_take]; rfl))
  (hc : T → Calls Tryz.prog f args W fun e w' => e = .returned v ∧ Below W.heap.size W w' := by intro c; (first | apply c | (apply drB; apply c)); all_goals first | (with_reducible assumption) | exact Z0.out (by with_reducible assumption) | (with_reducible exact hL.below bq) | exact Eq.refl _ | omega | exact Z0.out (by assumption) | exact hL.below bq | exact of_decide_eq_true rfl | assumption) : wpList Tryz.prog ops Q (o :: rest) a W := by
  obtain ⟨fn, hf, hn, hb⟩ := c.hf
  refine goesL_ N hd hg hf hn hb args hop hargs ((hc c.pf).mono ?_)
  rintro e w' ⟨rfl, hb⟩
  exact ⟨_, rfl, K w' hb⟩
theorem cC {f : FuncId} {args : Array Value} {R : Ending → World → Prop} {v : Value} {T : Prop} [c : Ctr f T]
  (K : ∀ w', Below W.heap.size W w' → R (.returned v) w')
  (hc : T → Calls Tryz.prog f args W fun e w' => e = .returned v ∧ Below W.heap.size W w' := by intro c; (first | apply c | (apply drB; apply c)); all_goals first | (with_reducible assumption) | exact Z0.out (by with_reducible assumption) | (with_reducible exact hL.below bq) | exact Eq.refl _ | omega | exact Z0.out (by assumption) | exact hL.below bq | exact of_decide_eq_true rfl | assumption) : Calls Tryz.prog f args W R := by
  refine (hc c.pf).mono ?_
  rintro e w' ⟨rfl, hb⟩
  exact K w' hb
theorem cX {f : FuncId} {ars : Array Operand} {ts : Array TypeId} {args : Array Value} {N : Option Tmp} {T : Prop} {R : Ending → World → Prop}
  (hop : o.op = .call { callee := .value (.func f), args := ars, argTypes := ts }) [c : Ctr f T]
  (K : ∀ e w', R e w' → ∃ v, e = .returned v ∧ wpList Tryz.prog ops Q rest (a.put N v) w')
  (hd : o.dst = N := by rfl) (hg : o.guard = none := by rfl)
  (hargs : ars.map a.eval = args := by (try simp only [List.map_toArray, List.map_cons, List.map_nil]); first | done | rfl | (simp only [List.length_drop, List.length_take]; rfl))
  (hc : T → Calls Tryz.prog f args W R := by intro c; apply c; all_goals first | (with_reducible assumption) | exact Z0.out (by with_reducible assumption) | (with_reducible exact hL.below bq) | exact Kd.C_below (by assumption) (by assumption) | omega) : wpList Tryz.prog ops Q (o :: rest) a W := by
  obtain ⟨fn, hf, hn, hb⟩ := c.hf
  exact goesL_ N hd hg hf hn hb args hop hargs ((hc c.pf).mono K)
theorem al1 {p : World → Prop} {x : Obj} (h : ∀ W', Below W.heap.size W W' → Z0 (W'.heap[W.heap.size]? = some x) → p W') : p (W.alloc x) := h _ (below_alloc (Below.refl _ _) _) ⟨blk_new _ _⟩
theorem al2 {p : World → Prop} {x y : Obj} (h : ∀ W', Below W.heap.size W W' → Z0 (W'.heap[W.heap.size]? = some x) → Z0 (W'.heap[W.heap.size + 1]? = some y) → p W') : p ((W.alloc x).alloc y) :=
  h _ (below_alloc (below_alloc (Below.refl _ _) _) _) ⟨blk_alloc (blk_new _ _) _⟩ ⟨by have := blk_new (W.alloc x) y; rwa [show (W.alloc x).heap.size = W.heap.size + 1 from Array.size_push ..] at this⟩
theorem atC {f : FuncId} {args : Array Value} {R : Ending → World → Prop} (h : Calls Tryz.prog f args W R) : Calls Tryz.prog f args W R := h
theorem litS (xs : List ByteArray) {cs : Array Value} {e : TypeId} {N : Tmp} (K : ∀ A c w', Below W.heap.size W w' → xs.length ≤ c → Kd.string.C w' A xs.length xs → wpList Tryz.prog ops Q rest (a.put (some N) (.slice A xs.length c)) w')
  (hd : o.dst = some N := by rfl) (hg : o.guard = none := by rfl) (hl : xs.length ≤ 1000 := by simp) (he : cs = (encs Value.string xs).toArray := by rfl)
  (hr : Sem.run Tryz.prog (execOp a.eval o) W = Result.ok (Next.value (.slice (some ⟨W.heap.size, 0, none⟩) xs.length xs.length)) (W.alloc (Obj.cells cs e)) := by first | (go_simp; done) | (go_simp; rfl)) : wpList Tryz.prog ops Q (o :: rest) a W := by
  subst he
  refine Kd.R_lit Kd.string W.heap.size e hg hd (xs := xs) (inner := encs Value.string xs) (ok := fun _ => True) (okp := fun _ => True) hr (Kd.reps_scalar xs) (fun _ h => h) trivial (Below.refl _ _) (Nat.le_refl _) (by omega) ?_
  intro v w' ho hb _ _
  obtain ⟨A, c, rfl, hc, hC⟩ := Kd.R_reads ho
  rw [hd]
  exact K A c w' hb hc hC
theorem litR {α : Type} (d : Kd α) (xs : List α) (inner : List Value) {e : TypeId} {N : Tmp} (hp : Reps (d.M W W.heap.size (fun _ => True)) d.sz xs inner)
  (K : ∀ v w', Below W.heap.size W w' → Z0 (d.R e w' W.heap.size (fun _ => True) v xs) → wpList Tryz.prog ops Q rest (a.put (some N) v) w')
  (hd : o.dst = some N := by rfl) (hg : o.guard = none := by rfl) (hl : xs.length ≤ 1000 := by simp)
  (hr : Sem.run Tryz.prog (execOp a.eval o) W = Result.ok (Next.value (.slice (some ⟨W.heap.size, 0, none⟩) xs.length xs.length)) (W.alloc (Obj.cells inner.toArray e)) := by first | (go_simp; done) | (go_simp; rfl)) : wpList Tryz.prog ops Q (o :: rest) a W := by
  refine Kd.R_lit d W.heap.size e hg hd (xs := xs) (inner := inner) (ok := fun _ => True) (okp := fun _ => True) hr hp (fun _ h => h) trivial (Below.refl _ _) (Nat.le_refl _) (by omega) ?_
  intro v w' ho hb _ _
  rw [hd]
  exact K v w' hb ⟨ho⟩
theorem mkI (n : Int) (ys : List Int) {N : Tmp} {t : TypeId} {x y : Operand} (hop : o.op = .makeSlice t x y) (h0 : 0 ≤ n) (hl : n.toNat ≤ 35184372088832) (hys : Z0 (ys = List.replicate n.toNat 0))
  (K : ∀ A c w', Below W.heap.size W w' → Z0 (Kd.R (Kd.int .i64) 3 w' W.heap.size (fun _ => True) (.slice A ys.length c) ys) → wpList Tryz.prog ops Q rest (a.put (some N) (.slice A ys.length c)) w')
  (hd : o.dst = some N := by rfl) (hg : o.guard = none := by rfl) (hx : a.eval x = .int .i64 n := by rfl) (hy : a.eval y = .int .i64 n := by rfl) (ht : Tryz.prog.underlying t = some (.slice 3) := by with_reducible assumption) : wpList Tryz.prog ops Q (o :: rest) a W := by
  refine Kd.R_make (Kd.int .i64) _ 3 hg (N := N) hd t x y hop n hx hy ht (.int .i64 0) 8 info3 rfl (by decide) (by omega) 0 (ok := fun _ => True) (okp := fun _ => True) rfl (fun _ hk => hk) trivial h0 (by omega) (Below.refl _ _) (Nat.le_refl _) ?_
  intro v w' ho hb _ _
  rw [← hys.out] at ho
  obtain ⟨A, c, rfl⟩ := Kd.R_slice ho
  rw [hd]
  exact K A c w' hb ⟨ho⟩
theorem stI {w : World} {base g n cap : Nat} {ok : Nat → Prop} {xs : List Int} {t : TypeId} {p : Tmp} {vo : Operand} (i : Int) (x : Int) (HO : Z0 (Kd.R (Kd.int .i64) 3 W base ok (.slice (some ⟨g, 0, none⟩) n cap) xs)) (HB : Z0 (Below w.heap.size w W)) (hop : o.op = .store t (.tmp p) vo)
  (K : ∀ w', Z0 (Kd.R (Kd.int .i64) 3 w' base ok (.slice (some ⟨g, 0, none⟩) n cap) (xs.set i.toNat x)) → W.grownBy w' (some g) → Z0 (Below w.heap.size w w') → wpList Tryz.prog ops Q rest a w')
  (hw : w.heap.size ≤ base := by exact Nat.le_refl _) (hN : o.dst = none := by rfl) (hg : o.guard = none := by rfl)
  (hr : (execOp a.eval o).run Tryz.prog W = .ok .skip (W.setCell ⟨g, i.toNat, none⟩ (.int .i64 x)) := by first | (go_simp; done) | (go_simp; rfl)) : wpList Tryz.prog ops Q (o :: rest) a W := by
  refine store_event hg hop hN hr fun w' e => ?_
  subst e
  have h := Kd.R_putg HO.out i x
  exact K _ ⟨h.1⟩ h.2 ⟨below_set HB.out (Nat.le_trans hw (Kd.R_base HO.out g rfl))⟩
theorem apG {w0 : World} {v : Value} {xs : List Int} {s x : Operand} {t : TypeId} (p : Int) {N : Option Tmp}
  (HO : Z0 (Kd.R (Kd.int .i64) 3 W w0.heap.size (fun _ => True) v xs)) (HB : Z0 (Below w0.heap.size w0 W))
  (ho : o.op = .call { callee := .builtin .append, args := #[s, x], argTypes := #[t, t] }) (hl : xs.length < 17592186044416)
  (K : ∀ v1 w1, Z0 (Kd.R (Kd.int .i64) 3 w1 w0.heap.size (fun _ => True) v1 (xs ++ [p])) → Z0 (Below w0.heap.size w0 w1) → (∀ u ys, Kd.R (Kd.int .i64) 3 W w0.heap.size (fun k => True ∧ some k ≠ v.ownBlock) u ys → Z0 (Kd.R (Kd.int .i64) 3 w1 w0.heap.size (fun k => True ∧ some k ≠ v1.ownBlock) u ys)) → wpList Tryz.prog ops Q rest (a.put N v1) w1)
  (ht : Tryz.prog.underlying t = some (.slice 3) := by with_reducible assumption) (hd : o.dst = N := by rfl) (hg : o.guard = none := by rfl)
  (hs : a.eval s = v := by rfl) (hx : a.eval x = .slice (some ⟨W.heap.size, 0, none⟩) 1 1 := by rfl) : wpList Tryz.prog ops Q (o :: rest) a (W.alloc (.cells #[.int .i64 p] 3)) := by
  refine Kd.R_append (Kd.int .i64) (w0 := w0) w0.heap.size hg s x t 3 (.int .i64 0) 8 ho ht info3 rfl (by decide) (by omega) v xs p [.int .i64 p] (fun _ => True) (fun _ => False) hs hx rfl (fun _ h => h.elim) (fun _ _ => trivial) HO.out HB.out (below_size HB.out) (by omega) ?_
  intro v1 w1 h1 h2 h3 h4
  rw [hd]
  exact K v1 w1 ⟨h1⟩ ⟨h2⟩ fun u ys h => ⟨Kd.R_after h h3 h4⟩
end
theorem ownF {w : World} {base n cap : Nat} {ok : Nat → Prop} {xs : List Int} {A : Option Addr} (HO : Z0 (Kd.R (Kd.int .i64) 3 w base ok (.slice A n cap) xs)) (i : Int) (p : 0 ≤ i) (q : i < n) :
  ∃ g, A = some ⟨g, 0, none⟩ ∧ w.cell? ⟨g, i.toNat, none⟩ = some (.int .i64 (rd xs i)) ∧ w.frozen? ⟨g, i.toNat, none⟩ = false ∧ (0 ≤ i) = True ∧ (i < n) = True := by
  obtain ⟨hn, -, -⟩ := Kd.R_reads' HO.out
  obtain ⟨g, c, e, -⟩ := Kd.R_form HO.out (by omega)
  injection e with e _ _
  subst e
  obtain ⟨h1, h2⟩ := Kd.R_celln 0 HO.out i p q
  exact ⟨g, rfl, h1, h2, eq_true p, eq_true q⟩
theorem litC (W : World) (t : TypeId) (xs : List ByteArray) (hl : xs.length ≤ 1000 := by simp) : Z0 (Kd.string.C (W.alloc (.cells (encs Value.string xs).toArray t)) (some ⟨W.heap.size, 0, none⟩) xs.length xs) := by
  refine ⟨rfl, by omega, fun _ => ⟨_, rfl, fun j p hj => ⟨[.string p], rfl, rfl, fun i u hu => ?_⟩⟩⟩
  obtain ⟨rfl, rfl⟩ : i = 0 ∧ u = .string p := by
    cases i with
    | zero => simpa [eq_comm] using hu
    | succ i => simp at hu
  have e : (⟨W.heap.size, 0, none⟩ : Addr).add (j * Kd.string.sz + 0) = ⟨W.heap.size, j, none⟩ := by
    rw [add_plain]; show (⟨_, j * 1 + 0, none⟩ : Addr) = _; simp
  rw [e]
  have h2 : (encs Value.string xs)[j]? = some (.string p) := by simp [encs, hj]
  have h3 : (W.alloc (.cells (encs Value.string xs).toArray t)).heap[W.heap.size]? = some (.cells (encs Value.string xs).toArray t) := by simp only [World.alloc, Array.getElem?_push_size]
  unfold World.cell?
  rw [h3]
  simp only [Option.isSome_none, Bool.false_eq_true, if_false, List.getElem?_toArray]
  exact h2
set_option linter.unusedVariables false
set_option linter.unusedSimpArgs false
theorem put_put (a : Act) (d : Tmp) (x v : Value) : (a.put (some d) x).put (some d) v = a.put (some d) v := by
 unfold Act.put
 simp only [Array.setIfInBounds_setIfInBounds]
section
variable {P : Program} {ops : Array Oper} {Q : Exit → Act → World → Prop} {md : Region.Mode} {S : World → Prop} {ds : List Nat}
theorem wpOp_of {i : Nat} {oi : Oper} {a : Act} {w : World} {K : Act → World → Prop} (hi : ops[i]? = some oi) (h : if Region.wanted oi (yielded ops a.tmps) = true then Oper.wp P oi a w K Q else K (a.put oi.dst undef) w) : wpOp P ops Q i K a w := by
 unfold wpOp
 rw [hi]
 show if Region.wanted oi (yielded ops a.tmps) = true then _ else _
 split
 · rename_i hw; rw [if_pos hw] at h; exact .inl h
 · rename_i hw; rw [if_neg hw] at h; exact h
def pd (b : Bool) : Nat := if b = true then 0 else 1
structure AF2 (n0 : Nat) (ob : Obj) (b c : Bool) (x y : Value) (w : World) : Prop where
  p : b = true → ∃ g, x = .pointer (some ⟨g, 0, none⟩) ∧ n0 ≤ g ∧ w.heap[g]? = some ob
  q : c = true → ∃ g, y = .pointer (some ⟨g, 0, none⟩) ∧ n0 ≤ g ∧ w.heap[g]? = some ob
  ne : b = true → c = true → x ≠ y
  n : n0 ≤ w.heap.size
theorem AF2.on {n0 : Nat} {ob : Obj} {b c : Bool} {x y : Value} {w w' : World} (h : AF2 n0 ob b c x y w) (hb : Below w.heap.size w w') : AF2 n0 ob b c x y w' :=
 ⟨fun e => (by obtain ⟨g, e1, e2, e3⟩ := h.p e; exact ⟨g, e1, e2, (hb.block g (Array.getElem?_eq_some_iff.1 e3).1).trans e3⟩),
  fun e => (by obtain ⟨g, e1, e2, e3⟩ := h.q e; exact ⟨g, e1, e2, (hb.block g (Array.getElem?_eq_some_iff.1 e3).1).trans e3⟩), h.ne, Nat.le_trans h.n hb.size⟩
theorem AF2.start {n0 : Nat} {ob : Obj} {x y : Value} {w : World} (h : n0 ≤ w.heap.size) : AF2 n0 ob false false x y w := ⟨fun e => (by cases e), fun e => (by cases e), fun e => (by cases e), h⟩
theorem ptr_ne {g n : Nat} (h : g < n) : (Value.pointer (some ⟨g, 0, none⟩)) ≠ .pointer (some ⟨n, 0, none⟩) := fun e => by
 injection e with e; injection e with e; injection e with e; omega
theorem AF2.putp {n0 : Nat} {ob : Obj} {c : Bool} {x y : Value} {w : World} (h : AF2 n0 ob false c x y w) : AF2 n0 ob true c (.pointer (some ⟨w.heap.size, 0, none⟩)) y (w.alloc ob) := by
 have h' := h.on (below_alloc (Below.refl _ _) ob)
 refine ⟨fun _ => ⟨_, rfl, h.n, blk_new _ _⟩, h'.q, fun _ e => ?_, h'.n⟩
 obtain ⟨g, e1, -, e3⟩ := h.q e
 rw [e1]
 exact (ptr_ne (Array.getElem?_eq_some_iff.1 e3).1).symm
section
variable {p q : Nat} {op oq : Oper} (dp dq : Tmp) (a0 : Act) (l : Bool → Bool → Array Bool) {n n0 : Nat} {ob : Obj} {B : World → Prop}
end
theorem pcl {X : Act → World → Prop} {oi : Oper} {a : Act} {w : World} (i : Nat) (d : Tmp) {f : FuncId} {ars : Array Operand} {ts : Array TypeId} {args : Array Value} {R : Ending → World → Prop} (hf : ∃ fn, P.funcs[f]? = some fn ∧ (fn.name == "runtime.NumGoroutine") = false ∧ fn.body.isSome = true) (hc : Calls P f args w R)
  (K : ∀ e w', R e w' → ∃ v, e = .returned v ∧ S w' ∧ X (a.put (some d) v) w')
  (hi : ops[i]? = some oi := by rfl) (hw : Region.wanted oi (yielded ops a.tmps) = true := by rfl) (hN : oi.dst = some d := by rfl) (hop : oi.op = .call { callee := .value (.func f), args := ars, argTypes := ts } := by rfl)
  (hargs : ars.map a.eval = args := by ((try simp only [List.map_toArray, List.map_cons, List.map_nil]); first | done | rfl)) : wpOp P ops Q i (fun a' w' => (i ∉ ds → S w → S w') ∧ X a' w') a w := by
 obtain ⟨fn, hf1, hf2, hf3⟩ := hf
 refine wpOp_of hi ?_
 refine goes_ hf1 hf2 hf3 args hw rfl hop hargs (hc.mono ?_)
 intro e w' h
 obtain ⟨v, e1, hS, hX⟩ := K e w' h
 refine ⟨v, e1, ?_⟩
 rw [hN]
 exact ⟨fun _ _ => hS, hX⟩
end
section
variable {P : Program} {ops : Array Oper} {Q : Exit → Act → World → Prop} {md : Region.Mode} {S : World → Prop} {ds : List Nat} {oi : Oper} {fuel : Nat} {l : Array Bool} {a a' : Act} {w w1 : World} {v : Value}
theorem tk (i : Nat) (d : Tmp) (hS : S w) (h : wpAnyLast P md ops Q S ds fuel (l.setIfInBounds i true) a' w) (hi : ops[i]? = some oi := by rfl) (hN : oi.dst = some d := by rfl) (hc : takeB md ops ds l (l.setIfInBounds i true) i = true := by kernel_rfl)
  (hQ : ∀ c a w, Q (.panic c) (a.put oi.dst v) w → Q (.panic c) a w := by exact fun _ _ _ h => h)
  (hy : YieldsIf P ops S oi v a := by (refine Or.inl ⟨by rfl, ?_⟩; intro w' hs; (try dsimp only at hs); go_split_ands; go_simp; with_reducible rfl))
  (ha : a.put (some d) v = a' := by ((simp only [Act.put, List.setIfInBounds_toArray, List.set_cons_zero, List.set_cons_succ]); rfl))
  : wpAnyLast P md ops Q S ds (fuel + 1) l a w :=
 take_ _ hi hN hc hQ hy hS ha h
theorem tp (i : Nat) (d : Tmp) (h : wpAnyLast P md ops Q S ds fuel (l.setIfInBounds i true) a' w) (hi : ops[i]? = some oi := by rfl) (hN : oi.dst = some d := by rfl) (hc : anyB md ops l (l.setIfInBounds i true) i = true := by kernel_rfl)
  (hQ : ∀ c a w, Q (.panic c) (a.put oi.dst v) w → Q (.panic c) a w := by exact fun _ _ _ h => h)
  (hy : Yields P ops oi v a := by (refine Or.inl ⟨by rfl, ?_⟩; intro w'; go_simp; with_reducible rfl))
  (ha : a.put (some d) v = a' := by ((simp only [Act.put, List.setIfInBounds_toArray, List.set_cons_zero, List.set_cons_succ]); rfl))
  : wpAnyLast P md ops Q S ds (fuel + 1) l a w :=
 pure_ _ hi hN hc hQ hy ha h
theorem stL (i : Nat) (h : wpAnyLast P md ops Q S ds fuel (l.setIfInBounds i true) a w1) (hi : ops[i]? = some oi := by rfl) (hc : readyB md ops l (l.setIfInBounds i true) i = true := by kernel_rfl) (hd : i ∈ ds := by decide) (hw : Region.wanted oi (yielded ops a.tmps) = true := by rfl) (hN : oi.dst = none := by rfl)
  (hrun : (execOp a.eval oi).run P w = .ok .skip w1 := by (go_simp; rfl)) : wpAnyLast P md ops Q S ds (fuel + 1) l a w := by
 simp only [readyB, Bool.and_eq_true, beq_iff_eq] at hc
 refine wpAnyLast_all hc.1 (by simp) fun j hj => ?_
 rw [List.mem_singleton] at hj
 subst hj
 unfold wpOp
 simp only [hi, hw, if_true]
 refine .inl ?_
 unfold Oper.wp
 rw [hrun]
 refine ⟨fun h => absurd hd h, ?_⟩
 show wpAnyLast P md ops Q S ds fuel _ (a.put oi.dst undef) w1
 rw [hN]
 exact h
theorem cl (i : Nat) (d : Tmp) {f : FuncId} {ars : Array Operand} {ts : Array TypeId} {args : Array Value} {R : Ending → World → Prop} (hf : ∃ fn, Tryz.prog.funcs[f]? = some fn ∧ (fn.name == "runtime.NumGoroutine") = false ∧ fn.body.isSome = true) (hc : Calls Tryz.prog f args w R)
  (K : ∀ e w', R e w' → ∃ v, e = .returned v ∧ S w' ∧ ∃ a', a.put (some d) v = a' ∧ wpAnyLast Tryz.prog md ops Q S ds fuel (l.setIfInBounds i true) a' w')
  (hi : ops[i]? = some oi := by rfl) (hr : readyB md ops l (l.setIfInBounds i true) i = true := by kernel_rfl) (hd : i ∉ ds := by decide) (hw : Region.wanted oi (yielded ops a.tmps) = true := by rfl) (hN : oi.dst = some d := by rfl) (hop : oi.op = .call { callee := .value (.func f), args := ars, argTypes := ts } := by rfl)
  (hargs : ars.map a.eval = args := by ((try simp only [List.map_toArray, List.map_cons, List.map_nil]); first | done | rfl)) : wpAnyLast Tryz.prog md ops Q S ds (fuel + 1) l a w := by
 obtain ⟨fn, hf1, hf2, hf3⟩ := hf
 refine one_ _ hi hN hr hd fun K' hK => ?_
 refine goes_ hf1 hf2 hf3 args hw hN hop hargs (hc.mono ?_)
 intro e w' h
 obtain ⟨v, e1, hS, a', rfl, h⟩ := K e w' h
 exact ⟨v, e1, hK.out _ _ hS fun _ => h⟩
end
set_option linter.unusedVariables false
theorem Ev.as {α : Type} {f : Nat → Option α} {x : α} (h : Ev f x) : ∃ k, Z0 (f k = some x) := let ⟨k, h⟩ := h.ex; ⟨k, ⟨h⟩⟩
set_option linter.unusedVariables false
attribute [local go_sem] max2_int min2_int max_two min_two max_three min_three max_four min_four
set_option linter.unusedSimpArgs false
theorem bIcanonical.calls (a0 : ByteArray) (r : Bool) (w : World) (h : bIcanonical.f a0 = some r) :
  Calls Tryz.prog 147 #[.string a0] w fun e w' => e = .returned (.bool r) ∧ Below w.heap.size w w' := by
 have HB := Z0.mk (Below.refl w.heap.size w)
 have H := h
 clear h
 unfold bIcanonical.f at H
 obtain ⟨⟨t102, t103⟩, A2, H⟩ := bnd H
 try dsimp only at H
 rcases je H with ⟨-, c3b0, c3b1, H⟩ | ⟨c3, c3b0, c3b1, H⟩
 ·obtain rfl := Option.some.inj H
  go_enter Tryz.func147, Tryz.ntmps147
  go_wp2_with (first | ((with_reducible refine gc_ 178 rfl ?_); refine goB (some 7) Tryz.func178 #[.string a0, .string (⟨#[45]⟩ : ByteArray)] bq (strings_CutPrefix.calls a0 (⟨#[45]⟩ : ByteArray) t102 t103 _ A2.out) ?_; clear HB; intro w4 HB))
  go_ret
  exact finE
 rcases je H with ⟨-, c5b0, c5b1, H⟩ | ⟨c5, c5b0, c5b1, H⟩
 ·obtain rfl := Option.some.inj H
  go_enter Tryz.func147, Tryz.ntmps147
  go_wp2_with (first | ((with_reducible refine gc_ 178 rfl ?_); refine goB (some 7) Tryz.func178 #[.string a0, .string (⟨#[45]⟩ : ByteArray)] bq (strings_CutPrefix.calls a0 (⟨#[45]⟩ : ByteArray) t102 t103 _ A2.out) ?_; clear HB; intro w6 HB))
  go_ret
  exact finE
 obtain ⟨c7, c7b0, H⟩ := gd H
 have c7b1 : decide (0 < t102.size) = true := decide_eq_true (by omega)
 clear c7
 rcases je H with ⟨-, c9b0, c9b1, H⟩ | ⟨c9, c9b0, c9b1, H⟩
 ·obtain rfl := Option.some.inj H
  go_enter Tryz.func147, Tryz.ntmps147
  go_wp2_with (first | ((with_reducible refine gc_ 178 rfl ?_); refine gL 7 Tryz.func178 (strings_CutPrefix.calls _ _ _ _ _ A2.out) ?_; rintro _ w10 ⟨rfl, hb⟩; refine ⟨_, rfl, ?_⟩; replace HB := fB HB hb; clear hb; have p8 : 0 ≤ (0 : Int) := (by omega); have q8 : 0 < t102.size := (by have : (0 : Int) < (t102.size : Int) := od; omega); have hx8 : ∀ h : 0 < t102.size, ((t102[0]'h).toNat : Int) = bt t102 0 := bt_at t102 0; clear p8; have qi8 : (0 < (t102.size : Int)) = True := eq_true od; replace q8 := eq_true q8))
  go_ret
  exact finE
 obtain ⟨t104, A11, H⟩ := bnd H
 obtain rfl := Option.some.inj H
 go_enter Tryz.func147, Tryz.ntmps147
 go_wp2_with (first | ((with_reducible refine gc_ 178 rfl ?_); refine gL 7 Tryz.func178 (strings_CutPrefix.calls _ _ _ _ _ A2.out) ?_; rintro _ w12 ⟨rfl, hb⟩; refine ⟨_, rfl, ?_⟩; replace HB := fB HB hb; clear hb; have p8 : 0 ≤ (0 : Int) := (by omega); have q8 : 0 < t102.size := (by have : (0 : Int) < (t102.size : Int) := od; omega); have hx8 : ∀ h : 0 < t102.size, ((t102[0]'h).toNat : Int) = bt t102 0 := bt_at t102 0; clear p8; have qi8 : (0 < (t102.size : Int)) = True := eq_true od; replace q8 := eq_true q8) | (go_at_call 192; (with_reducible refine (strings_Trim.calls t102 (⟨#[48, 49, 50, 51, 52, 53, 54, 55, 56, 57]⟩ : ByteArray) t104 _ A11.out).mono ?_); rintro e w13 ⟨rfl, hb⟩; replace HB := fB HB hb; clear hb))
 go_ret
 exact finE
theorem stringslite_HasPrefix.calls (a0 : ByteArray) (a1 : ByteArray) (r : Bool) (w : World) (h : stringslite_HasPrefix.f a0 a1 = some r) :
  Calls Tryz.prog 193 #[.string a0, .string a1] w fun e w' => e = .returned (.bool r) ∧ Drawn0 w w' := by
 have H := h
 clear h
 unfold stringslite_HasPrefix.f at H
 rcases jh H with ⟨c3, c3b0, H⟩ | ⟨c3, c3b0, H⟩
 ·have c3b1 : decide (a1.size ≤ a0.size) = true := decide_eq_true (Int.ofNat_le.mp c3)
  clear c3
  obtain ⟨-, c4b0, c4b1, H⟩ := gt H
  obtain ⟨-, c5b0, c5b1, H⟩ := gt H
  obtain rfl := Option.some.inj H
  go_enter Tryz.func193, Tryz.ntmps193
  go_wp2
  go_ret
  exact finD
 have c3b1 : decide (a1.size ≤ a0.size) = false := decide_eq_false (fun h => c3 (Int.ofNat_le.mpr h))
 clear c3
 obtain rfl := Option.some.inj H
 go_enter Tryz.func193, Tryz.ntmps193
 go_wp2
 go_ret
 exact finD
theorem stringslite_TrimPrefix.calls (a0 : ByteArray) (a1 : ByteArray) (r : ByteArray) (w : World) (h : stringslite_TrimPrefix.f a0 a1 = some r) :
  Calls Tryz.prog 149 #[.string a0, .string a1] w fun e w' => e = .returned (.string r) ∧ Drawn0 w w' := by
 have H := h
 clear h
 unfold stringslite_TrimPrefix.f at H
 obtain ⟨t105, A3, H⟩ := bnd H
 by_cases c4 : t105 = true
 ·subst c4
  have H1 : (if 0 ≤ (a1.size : Int) then (if (a1.size : Int) ≤ (a0.size : Int) then (some (a0.extract ((a1.size : Int) : Int).toNat a0.size)) else (none)) else (none)) = some r := by rw [if_pos rfl] at H; exact H
  clear H
  have H := H1
  clear H1
  obtain ⟨-, c5b0, c5b1, H⟩ := gt H
  obtain ⟨-, c6b0, c6b1, H⟩ := gt H
  obtain rfl := Option.some.inj H
  go_enter Tryz.func149, Tryz.ntmps149
  go_wp2_with (first | ((with_reducible refine gc_ 193 rfl ?_); refine goD (some 7) Tryz.func193 #[.string a0, .string a1] (stringslite_HasPrefix.calls a0 a1 true _ A3.out) ?_; intro nd))
  go_ret
  exact finD
 replace c4 := Bool.eq_false_iff.mpr c4
 subst c4
 have H1 : (some a0) = some r := by rw [if_neg (show ¬ (false = true) by decide)] at H; exact H
 clear H
 have H := H1
 clear H1
 obtain rfl := Option.some.inj H
 go_enter Tryz.func149, Tryz.ntmps149
 go_wp2_with (first | ((with_reducible refine gc_ 193 rfl ?_); refine goD (some 7) Tryz.func193 #[.string a0, .string a1] (stringslite_HasPrefix.calls a0 a1 false _ A3.out) ?_; intro nd))
 go_ret
 exact finD
theorem strings_TrimPrefix.calls (a0 : ByteArray) (a1 : ByteArray) (r : ByteArray) (w : World) (h : strings_TrimPrefix.f a0 a1 = some r) :
  Calls Tryz.prog 110 #[.string a0, .string a1] w fun e w' => e = .returned (.string r) ∧ Drawn0 w w' := by
 have H := h
 clear h
 unfold strings_TrimPrefix.f at H
 obtain ⟨t106, A3, H⟩ := bnd H
 obtain rfl := Option.some.inj H
 go_enter Tryz.func110, Tryz.ntmps110
 go_wp2_with (first | ((with_reducible refine gc_ 149 rfl ?_); refine goD (some 7) Tryz.func149 #[.string a0, .string a1] (stringslite_TrimPrefix.calls a0 a1 t106 _ A3.out) ?_; intro nd))
 go_ret
 exact finD
theorem bIdigits.calls (a0 : ByteArray) (r : Int) (w : World) (h : bIdigits.f a0 = some r) :
  Calls Tryz.prog 148 #[.string a0] w fun e w' => e = .returned (.int .i64 r) ∧ Drawn0 w w' := by
 have H := h
 clear h
 unfold bIdigits.f at H
 obtain ⟨t107, A2, H⟩ := bnd H
 obtain rfl := Option.some.inj H
 go_enter Tryz.func148, Tryz.ntmps148
 go_wp2_with (first | ((with_reducible refine gc_ 110 rfl ?_); refine goD (some 4) Tryz.func110 #[.string a0, .string (⟨#[45]⟩ : ByteArray)] (strings_TrimPrefix.calls a0 (⟨#[45]⟩ : ByteArray) t107 _ A2.out) ?_; intro nd))
 go_ret
 exact finD
theorem bICheck.calls (a0 : ByteArray) (r : Int) (w : World) (h : bICheck.f a0 = some r) :
  Calls Tryz.prog 109 #[.string a0] w fun e w' => e = .returned (.int .i64 r) ∧ Below w.heap.size w w' := by
 have HB := Z0.mk (Below.refl w.heap.size w)
 have H := h
 clear h
 unfold bICheck.f at H
 obtain ⟨t108, A2, H⟩ := bnd H
 by_cases c3 : t108 = true
 ·subst c3
  have H1 : ((bIdigits.f a0).bind fun t109 => (if t109 > 4096 then (some 10) else (some 0))) = some r := by rw [if_pos rfl] at H; exact H
  clear H
  have H := H1
  clear H1
  obtain ⟨t109, A4, H⟩ := bnd H
  rcases jg H with ⟨-, c5b0, H⟩ | ⟨-, c5b0, H⟩
  ·obtain rfl := Option.some.inj H
   go_enter Tryz.func109, Tryz.ntmps109
   go_wp2_with (first | ((with_reducible refine gc_ 147 rfl ?_); refine goB (some 5) Tryz.func147 #[.string a0] bq (bIcanonical.calls a0 true _ A2.out) ?_; clear HB; intro w6 HB) | ((with_reducible refine gc_ 148 rfl ?_); refine goD (some 9) Tryz.func148 #[.string a0] (bIdigits.calls a0 t109 _ A4.out) ?_; intro nd))
   go_ret
   exact finE
  obtain rfl := Option.some.inj H
  go_enter Tryz.func109, Tryz.ntmps109
  go_wp2_with (first | ((with_reducible refine gc_ 147 rfl ?_); refine goB (some 5) Tryz.func147 #[.string a0] bq (bIcanonical.calls a0 true _ A2.out) ?_; clear HB; intro w7 HB) | ((with_reducible refine gc_ 148 rfl ?_); refine goD (some 9) Tryz.func148 #[.string a0] (bIdigits.calls a0 t109 _ A4.out) ?_; intro nd))
  go_ret
  exact finE
 replace c3 := Bool.eq_false_iff.mpr c3
 subst c3
 have H1 : (some 3) = some r := by rw [if_neg (show ¬ (false = true) by decide)] at H; exact H
 clear H
 have H := H1
 clear H1
 obtain rfl := Option.some.inj H
 go_enter Tryz.func109, Tryz.ntmps109
 go_wp2_with (first | ((with_reducible refine gc_ 147 rfl ?_); refine goB (some 5) Tryz.func147 #[.string a0] bq (bIcanonical.calls a0 false _ A2.out) ?_; clear HB; intro w8 HB))
 go_ret
 exact finE
theorem rAcanonical.calls (a0 : ByteArray) (r : Bool) (w : World) (h : rAcanonical.f a0 = some r) :
  Calls Tryz.prog 152 #[.string a0] w fun e w' => e = .returned (.bool r) ∧ Below w.heap.size w w' := by
 have HB := Z0.mk (Below.refl w.heap.size w)
 have H := h
 clear h
 unfold rAcanonical.f at H
 obtain ⟨t110, A2, H⟩ := bnd H
 obtain rfl := Option.some.inj H
 go_enter Tryz.func152, Tryz.ntmps152
 go_wp2_with (first | ((with_reducible refine gc_ 109 rfl ?_); refine goB (some 4) Tryz.func109 #[.string a0] bq (bICheck.calls a0 t110 _ A2.out) ?_; clear HB; intro w3 HB))
 go_ret
 exact finE
set_option linter.unusedVariables false
set_option linter.unusedSimpArgs false
theorem trim_take : ∀ (k : Nat) (x r : List Int), bItrim.l0 k x = some r → ∃ m, m ≤ x.length ∧ r = x.take m
 | 0, _, _, h => nomatch h
 | k + 1, x, r, h => by
  unfold bItrim.l0 at h
  rcases jn h with ⟨-, h⟩ | ⟨-, h⟩
  · obtain ⟨-, h⟩ := gn h
    obtain ⟨-, h⟩ := gn h
    rcases jn h with ⟨-, h⟩ | ⟨-, h⟩
    · obtain ⟨hj, h⟩ := gn h
      obtain ⟨m, hm, rfl⟩ := trim_take k _ _ h
      rw [List.length_take] at hm
      exact ⟨m, by omega, by rw [List.take_take, Nat.min_eq_left (by omega)]⟩
    · cases h; exact ⟨_, Nat.le_refl _, (List.take_length ..).symm⟩
  · cases h; exact ⟨_, Nat.le_refl _, (List.take_length ..).symm⟩
theorem trimC (k : Nat) (A : Option Addr) (c : Nat) (l r : List Int) (w : World) (hC : Kd.C (Kd.int .i64) w A l.length l) (hc : l.length ≤ c) (h : bItrim.f k l = some r) :
  Calls Tryz.prog 144 #[.slice A l.length c] w fun e w' => e = .returned (.slice A r.length c) ∧ Below w.heap.size w w' := by
 have HB := Z0.mk (Below.refl w.heap.size w)
 unfold bItrim.f at h
 go_enter Tryz.func144, Tryz.ntmps144
 go_wp2
 go_loopg [0] k (fun kq v0 w' => ∃ x, v0 = .slice A (List.length x) c ∧ Z0 (bItrim.l0 kq x = some r) ∧ kq ≤ k ∧ Z0 (Kd.C (Kd.int .i64) w A x.length x) ∧ x.length ≤ c ∧ Z0 (Below w.heap.size w w'))
 case atStart => exact ⟨l, rfl, ⟨h⟩, Nat.le_refl _, ⟨hC⟩, hc, ⟨bqs⟩⟩
 clear h hC hc
 obtain ⟨x, rfl, H, hk, HC, hc, HB⟩ := hrel
 cases gk with
 | zero => cases H.out
 | succ k1 =>
 replace H := H.out
 unfold bItrim.l0 at H
 rcases jg H with ⟨c1, c2, H⟩ | ⟨c1, c2, H⟩
 · obtain ⟨j, hj⟩ : ∃ j : Int, wrap64 ((x.length : Int) - 1) = j := ⟨_, rfl⟩
   rw [hj] at H
   have hw : IntKind.i64.wrap ((x.length : Int) - 1) = j := (i64_w _).trans hj
   obtain ⟨j0, -, H⟩ := gd H
   obtain ⟨j1, -, H⟩ := gd H
   obtain ⟨ad, rfl, hx, p, q⟩ := atB HB HC.out j j0 j1
   have c3 : decide (0 < x.length) = true := decide_eq_true (by omega)
   rcases je H with ⟨-, e1, e2, H⟩ | ⟨-, e1, e2, H⟩
   · obtain ⟨j2, -, H⟩ := gd H
     obtain ⟨i0, hi, _, hsz, _⟩ := info_parts info3
     have hcut := cut_to (P := Tryz.prog) 35 3 .i64 Tryz.underlying35 hi (some ad) x.length c j j0 j2 hc
     have hl : (x.take j.toNat).length = j.toNat := by rw [List.length_take]; omega
     have H' := Z0.mk H
     go_wp2
     go_roundg k1
     case measure => omega
     case rel => exact ⟨x.take j.toNat, by rw [hl], H', by omega, ⟨Kd.C_take HC.out (by omega)⟩, by omega, ⟨bqs⟩⟩
   · cases H
     go_wp2
     go_ret
     exact ⟨rfl, bqs⟩
 · have c3 : decide (0 < x.length) = false := decide_eq_false (by omega)
   cases H
   go_wp2
   go_ret
   exact ⟨rfl, bqs⟩
theorem trimR (k : Nat) {base n c : Nat} {ok : Nat → Prop} {A : Option Addr} {l r : List Int} (w : World) (HO : Z0 (Kd.R (Kd.int .i64) 3 w base ok (.slice A n c) l)) (h : bItrim.f k l = some r) :
  Calls Tryz.prog 144 #[.slice A n c] w fun e w' => e = .returned (.slice A r.length c) ∧ Z0 (Kd.R (Kd.int .i64) 3 w' base ok (.slice A r.length c) r) ∧ Below w.heap.size w w' := by
 obtain ⟨rfl, hc, hC⟩ := Kd.R_reads' HO.out
 refine (trimC k A c l r w hC hc h).mono ?_
 rintro e w' ⟨rfl, hb⟩
 obtain ⟨m, hm, e⟩ := trim_take k l r h
 have hr := Kd.R_take (Kd.R_below HO.out hb) hm
 rw [show m = r.length by rw [e, List.length_take]; omega, show l.take r.length = r by rw [e, List.length_take, Nat.min_eq_left hm]] at hr
 exact ⟨rfl, ⟨hr⟩, hb⟩
instance : Ctr 144 (type_of% @trimR) := ⟨@trimR, _, Tryz.func144, by kernel_rfl, rfl⟩
theorem bItimes.calls (k : Nat) (A0 : Option Addr) (c0 : Nat) (l0 : List Int) (A1 : Option Addr) (c1 : Nat) (l1 : List Int) (r : List Int) (w : World) (hr0 : Kd.C (Kd.int .i64) w A0 l0.length l0) (hc0 : l0.length ≤ c0) (hr1 : Kd.C (Kd.int .i64) w A1 l1.length l1) (hc1 : l1.length ≤ c1) (h : bItimes.f k l0 l1 = some r) :
  Calls Tryz.prog 107 #[.slice A0 l0.length c0, .slice A1 l1.length c1] w fun e w' => ∃ v0_ : Value, e = .returned (v0_) ∧ Kd.R (Kd.int .i64) 3 w' w.heap.size (fun _ => True) v0_ r ∧ Below w.heap.size w w' := by
 have HB := Z0.mk (Below.refl w.heap.size w)
 unfold bItimes.f at h
 obtain ⟨n0, -, h⟩ := gd h
 obtain ⟨n1, -, h⟩ := gd h
 have hw := i64_w ((l0.length : Int) + (l1.length : Int))
 generalize wrap64 ((l0.length : Int) + (l1.length : Int)) = n at n0 n1 hw h
 obtain ⟨y, hy⟩ : ∃ y : List Int, Z0 (y = List.replicate n.toNat 0) := ⟨_, ⟨rfl⟩⟩
 rw [← hy.out] at h
 have hu := Tryz.underlying35
 replace hr0 := Z0.mk hr0
 replace hr1 := Z0.mk hr1
 have H' := Z0.mk h
 clear h hc0 hc1
 go_enter Tryz.func107, Tryz.ntmps107
 go_wp2_with (refine mkI n y rfl n0 n1 hy ?_; intro A c w1 hb HO; replace HO := Z0.mk (Kd.R_lower HO.out (below_size bqs)); replace HB := fB HB hb; clear hb)
 go_loopg [19] k (fun kq v19 w' => ∃ (x5 : List Int) (i : Int), v19 = .int .i64 i ∧ Z0 (bItimes.l0 kq l1 x5 l0 (l0.length : Int) i = some r) ∧ kq ≤ k ∧ Z0 (Kd.R (Kd.int .i64) 3 w' w.heap.size (fun _ => True) (.slice A y.length c) x5) ∧ Z0 (Below w.heap.size w w'))
 case atStart => exact ⟨y, 0, rfl, H', Nat.le_refl _, ⟨rq HO⟩, ⟨bqs⟩⟩
 clear H' HO HB hy n0 n1 hw
 obtain ⟨x5, i, rfl, H, hk, HO, HB⟩ := hrel
 cases gk with
 | zero => cases H.out
 | succ k1 =>
 replace H := H.out
 unfold bItimes.l0 at H
 rcases jd H with ⟨-, c1, H⟩ | ⟨-, c1, H⟩
 · obtain ⟨-, _, H⟩ := gd H
   obtain ⟨-, _, H⟩ := gd H
   have H' := Z0.mk H
   clear H
   obtain ⟨a0, rfl, r1, r2, r3⟩ := atB HB hr0.out i
   go_wp2
   go_loopg [8, 26] k1 (fun kq v8 v26 w' => ∃ (x5 : List Int) (x8 j : Int), v8 = .int .i64 x8 ∧ v26 = .int .i64 j ∧ Z0 (bItimes.l1 kq l1 x5 i (rd l0 i) x8 l0 (l0.length : Int) i l1 (l1.length : Int) j = some r) ∧ kq ≤ k1 ∧ Z0 (Kd.R (Kd.int .i64) 3 w' w.heap.size (fun _ => True) (.slice A y.length c) x5) ∧ Z0 (Below w.heap.size w w'))
   case atStart => exact ⟨x5, 0, 0, rfl, rfl, H', Nat.le_refl _, HO, HB⟩
   clear H' HO HB r1 r2 r3
   obtain ⟨x5, x8, j, rfl, rfl, H, hk1, HO, HB⟩ := hrel
   have hl := (Kd.R_reads' HO.out).1
   cases gk with
   | zero => cases H.out
   | succ k2 =>
   replace H := H.out
   unfold bItimes.l1 at H
   simp only [← hl] at H
   clear hl
   rcases jd H with ⟨-, d1, H⟩ | ⟨-, d1, H⟩
   · have hm := i64_w (i + j); generalize hm2 : wrap64 (i + j) = m at H hm
     repeat ((with_reducible have Z := gd H); obtain ⟨-, _, H⟩ := Z)
     obtain ⟨g, rfl, c3, c4, c5, c6⟩ := ownF HO m od od
     obtain ⟨a1, rfl, r4, r5, r6⟩ := atB HB hr1.out j
     have H' := Z0.mk H
     clear H
     go_wp2_with (refine stI m _ HO HB rfl ?_; intro w2 HO' hg HB')
     go_roundg k2
     case measure => omega
     case rel => exact ⟨_, _, _, rfl, rfl, H', by omega, HO', HB'⟩
   · have hm := i64_w (i + (l1.length : Int)); generalize hm2 : wrap64 (i + (l1.length : Int)) = m at H hm
     repeat ((with_reducible have Z := gd H); obtain ⟨-, _, H⟩ := Z)
     obtain ⟨g, rfl, c3, c4, c5, c6⟩ := ownF HO m od od
     have H' := Z0.mk H
     clear H
     go_wp2_with (refine stI m _ HO HB rfl ?_; intro w2 HO' hg HB')
     go_roundg k2
     case measure => omega
     case rel => exact ⟨_, _, rfl, H', by omega, HO', HB'⟩
 · obtain ⟨t, A1, H⟩ := bnd H
   cases H
   go_wp2_with (refine cX rfl ?_; rintro _ w2 ⟨rfl, HO', hb⟩; refine ⟨_, rfl, ?_⟩; replace HB := fB HB hb)
   go_ret
   exact ⟨_, rfl, HO'.out, HB.out⟩
theorem bIplus0.calls (k : Nat) (A0 : Option Addr) (c0 : Nat) (l0 : List Int) (A1 : Option Addr) (c1 : Nat) (l1 : List Int) (r : List Int) (w : World) (hr0 : Kd.C (Kd.int .i64) w A0 l0.length l0) (hc0 : l0.length ≤ c0) (hr1 : Kd.C (Kd.int .i64) w A1 l1.length l1) (hc1 : l1.length ≤ c1) (ar : Array Value) (hs : (ar = #[.slice A0 l0.length c0, .slice A1 l1.length c1] ∧ ¬ l0.length < l1.length) ∨ (ar = #[.slice A1 l1.length c1, .slice A0 l0.length c0] ∧ l1.length < l0.length)) (h : bIplus0.f k l0 l1 = some r) :
  Calls Tryz.prog 139 ar w fun e w' => ∃ v0_ : Value, e = .returned (v0_) ∧ Kd.R (Kd.int .i64) 3 w' w.heap.size (fun _ => True) v0_ r ∧ Below w.heap.size w w' := by
 have HB := Z0.mk (Below.refl w.heap.size w)
 unfold bIplus0.f at h
 obtain ⟨n0, -, h⟩ := gd h
 obtain ⟨n1, -, h⟩ := gd h
 obtain ⟨y, hy, h⟩ := yb h
 have hw := i64_w ((l0.length : Int) + 1)
 generalize wrap64 ((l0.length : Int) + 1) = n at n0 n1 hy hw
 have hu := Tryz.underlying35
 replace hr0 := Z0.mk hr0
 replace hr1 := Z0.mk hr1
 have H' := Z0.mk h
 clear h hc0 hc1
 rcases hs with ⟨rfl, hs⟩ | ⟨rfl, hs⟩
 all_goals (
  first
   | (have hz : ¬ l0.length < l1.length := hs; have hsw : decide ((l0.length : Int) < (l1.length : Int)) = false := decide_eq_false (by omega); have hsn : decide (l0.length < l1.length) = false := decide_eq_false hz; have hso : (l0.length < l1.length) = False := eq_false hz)
   | (have hz : l1.length < l0.length := hs; have hsw : decide ((l1.length : Int) < (l0.length : Int)) = true := decide_eq_true (by omega); have hsn : decide (l1.length < l0.length) = true := decide_eq_true hz; have hso : (l1.length < l0.length) = True := eq_true hz)
  clear hs hz
  go_enter Tryz.func139, Tryz.ntmps139
  go_wp2_with (refine mkI n y rfl n0 n1 hy ?_; intro A c w1 hb HO; replace HO := Z0.mk (Kd.R_lower HO.out (below_size bqs)); replace HB := fB HB hb; clear hb)
  go_loopg [6, 21] k (fun kq v6 v21 w' => ∃ (x5 : List Int) (x6 i : Int), v6 = .int .i64 x6 ∧ v21 = .int .i64 i ∧ Z0 (bIplus0.l0 kq l0 l1 x5 x6 (y.length : Int) i = some r) ∧ kq ≤ k ∧ Z0 (Kd.R (Kd.int .i64) 3 w' w.heap.size (fun _ => True) (.slice A y.length c) x5) ∧ Z0 (Below w.heap.size w w'))
  case atStart => exact ⟨y, 0, 0, rfl, rfl, H', Nat.le_refl _, ⟨rq HO⟩, ⟨bqs⟩⟩
  clear H' HO HB hw hsw hsn hso hy n0 n1
  obtain ⟨x5, x6, i, rfl, rfl, H, hk, HO, HB⟩ := hrel
  have hl := (Kd.R_reads' HO.out).1
  cases gk with
  | zero => cases H.out
  | succ k1 =>
  replace H := H.out
  unfold bIplus0.l0 at H
  simp only [← hl] at H
  clear hl
  rcases jd H with ⟨-, c1, H⟩ | ⟨-, c1, H⟩
  · repeat' (first | ((with_reducible have Z := gd H); obtain ⟨-, _, H⟩ := Z) | ((with_reducible have Z := jd H); rcases Z with ⟨-, _, H⟩ | ⟨-, _, H⟩))
    all_goals (
     obtain ⟨g, rfl, c3, c4, c5, c6⟩ := ownF HO i od od
     (try (have Z := atB HB hr0.out i; obtain ⟨a0, rfl, r1, r2, r3⟩ := Z))
     (try (have Z := atB HB hr1.out i; obtain ⟨a1, rfl, r4, r5, r6⟩ := Z))
     have H' := Z0.mk H
     clear H
     go_wp2_with (refine stI i _ HO HB rfl ?_; intro w2 HO' hg HB')
     go_roundg k1
     case measure => omega
     case rel => exact ⟨_, _, _, rfl, rfl, H', by omega, HO', HB'⟩)
  · obtain ⟨t, A1, H⟩ := bnd H
    cases H
    go_wp2_with (refine cX rfl ?_; rintro _ w2 ⟨rfl, HO', hb⟩; refine ⟨_, rfl, ?_⟩; replace HB := fB HB hb)
    go_ret
    exact ⟨_, rfl, HO'.out, HB.out⟩)
theorem bIplus.calls (k : Nat) (A0 : Option Addr) (c0 : Nat) (l0 : List Int) (A1 : Option Addr) (c1 : Nat) (l1 : List Int) (r : List Int) (w : World) (hr0 : Kd.C (Kd.int .i64) w A0 l0.length l0) (hc0 : l0.length ≤ c0) (hr1 : Kd.C (Kd.int .i64) w A1 l1.length l1) (hc1 : l1.length ≤ c1) (h : bIplus.f k l0 l1 = some r) :
  Calls Tryz.prog 139 #[.slice A0 l0.length c0, .slice A1 l1.length c1] w fun e w' => ∃ v0_ : Value, e = .returned (v0_) ∧ Kd.R (Kd.int .i64) 3 w' w.heap.size (fun _ => True) v0_ r ∧ Below w.heap.size w w' := by
 unfold bIplus.f at h
 split at h
 ·rename_i hs
  exact bIplus0.calls k A1 c1 l1 A0 c0 l0 r w hr1 hc1 hr0 hc0 _ (.inr ⟨rfl, hs⟩) h
 rename_i hs
 exact bIplus0.calls k A0 c0 l0 A1 c1 l1 r w hr0 hc0 hr1 hc1 _ (.inl ⟨rfl, hs⟩) h
end Go.Proofs.YtihbebbabjklkaaGreatDoor.PA
namespace Go.Proofs.YtihbebbabjklkaaGreatDoor
set_option linter.unusedVariables false
open Go.RowKit Go.Proofs.WWords Go.Proofs.WLast Go.Proofs.WMore
theorem add_off (g o j : Nat) : (⟨g, o, none⟩ : Addr).add j = ⟨g, o + j, none⟩ := by unfold Addr.add; split <;> simp_all
def WR (pre post : List Int) (o cF : Nat) (w : World) (base : Nat) (ok : Nat → Prop) (v : Value) (xs : List Int) : Prop :=
 (∀ k, v.ownBlock = some k → ok k) ∧ pre.length = o ∧ ∃ g cap, v = .slice (some ⟨g, o, none⟩) xs.length cap ∧ xs.length ≤ cap ∧ Kd.R (Kd.int .i64) 3 w base (fun k => k = g) (.slice (some ⟨g, 0, none⟩) (pre ++ xs ++ post).length cF) (pre ++ xs ++ post)
section
variable {pre post xs : List Int} {o cF base n c g cap : Nat} {w w' w1 W : World} {ok ok' ok1 : Nat → Prop} {v : Value} {A : Option Addr}
theorem WR_below (h : WR pre post o cF w base ok v xs) (hb : Below w.heap.size w w1) : WR pre post o cF w1 base ok v xs := by
 obtain ⟨h0, ho, g, cap, hv, hl, hr⟩ := h
 exact ⟨h0, ho, g, cap, hv, hl, Kd.R_below hr hb⟩
theorem WR_alloc (h : WR pre post o cF w base ok v xs) (b : Obj) : WR pre post o cF (w.alloc b) base ok v xs := WR_below h (below_alloc (Below.refl _ _) b)
theorem WR_drew (h : WR pre post o cF w base ok v xs) : WR pre post o cF w.drew base ok v xs := WR_below h (below_drew (Below.refl _ _))
theorem WR_drewN (h : WR pre post o cF w base ok v xs) (m : Nat) : WR pre post o cF (w.drewN m) base ok v xs := WR_below h (pw_below_drewN (Below.refl _ _) m)
theorem WR_slice (h : WR pre post o cF w base ok v xs) : ∃ A c, v = .slice A xs.length c := by
 obtain ⟨_, _, g, cap, hv, _⟩ := h
 exact ⟨_, _, hv⟩
theorem WR_full (h : WR pre post o cF w base ok (.slice (some ⟨g, o, none⟩) n cap) xs) : n = xs.length ∧ n ≤ cap ∧ pre.length = o ∧ ok g ∧ Kd.R (Kd.int .i64) 3 w base (fun k => k = g) (.slice (some ⟨g, 0, none⟩) (pre ++ xs ++ post).length cF) (pre ++ xs ++ post) := by
 obtain ⟨h0, ho, g', cap', hv, hl, hr⟩ := h
 simp only [Value.slice.injEq, Option.some.injEq, Addr.mk.injEq, and_true] at hv
 obtain ⟨rfl, rfl, rfl⟩ := hv
 exact ⟨rfl, hl, ho, h0 _ (by simp [Value.ownBlock]), hr⟩
theorem WR_celln (d : Int) (h : WR pre post o cF W base ok (.slice (some ⟨g, o, none⟩) n cap) xs) (i : Int) (h0 : 0 ≤ i) (hi : i < n) : W.cell? ⟨g, o + i.toNat, none⟩ = some (.int .i64 (rdOf d xs i)) ∧ W.frozen? ⟨g, o + i.toNat, none⟩ = false := by
 obtain ⟨rfl, _, ho, _, hr⟩ := WR_full h
 have hk := Kd.R_celln d hr ((o + i.toNat : Nat) : Int) (by omega) (by simp; omega)
 rw [Int.toNat_natCast] at hk
 refine ⟨?_, hk.2⟩
 rw [hk.1]
 congr 2
 unfold rdOf
 rw [Int.toNat_natCast, List.append_assoc, List.getD_eq_getElem?_getD, List.getD_eq_getElem?_getD, List.getElem?_append_right (by omega), ho, Nat.add_sub_cancel_left, List.getElem?_append_left (by omega)]
theorem WR_reads' (h : WR pre post o cF w base ok (.slice A n c) xs) : n = xs.length ∧ n ≤ c ∧ Kd.C (Kd.int .i64) w A xs.length xs := by
 obtain ⟨A', c', hA⟩ := WR_slice h
 obtain ⟨h0, ho, g, cap, hv, hl, hr⟩ := h
 simp only [Value.slice.injEq] at hv
 obtain ⟨rfl, rfl, rfl⟩ := hv
 have hmax := Kd.C_max (Kd.R_reads' hr).2.2
 refine ⟨rfl, hl, Kd.C_of_reads (d := (0 : Int)) ⟨rfl, by simp at hmax; omega, fun _ => ⟨_, rfl, fun j hj => ?_⟩⟩⟩
 have hk := (WR_celln (ok := fun _ => True) 0 ⟨fun _ _ => trivial, ho, g, _, rfl, hl, hr⟩ (j : Int) (by omega) (by omega)).1
 simp only [Int.toNat_natCast, rdOf] at hk
 rw [add_off]
 exact hk
theorem WR_putg (h : WR pre post o cF W base ok (.slice (some ⟨g, o, none⟩) n cap) xs) (i : Int) (hi : i.toNat < xs.length) (x : Int) : WR pre post o cF (W.setCell ⟨g, o + i.toNat, none⟩ (.int .i64 x)) base ok (.slice (some ⟨g, o, none⟩) n cap) (xs.set i.toNat x) ∧ W.grownBy (W.setCell ⟨g, o + i.toNat, none⟩ (.int .i64 x)) (some g) := by
 obtain ⟨hn, hl, ho, hok, hr⟩ := WR_full h
 have hk := Kd.R_putg hr ((o + i.toNat : Nat) : Int) x
 rw [Int.toNat_natCast] at hk
 have e : (pre ++ xs ++ post).set (o + i.toNat) x = pre ++ xs.set i.toNat x ++ post := by
  rw [List.append_assoc, List.set_append_right _ _ (by omega), ho, Nat.add_sub_cancel_left, List.set_append_left _ _ (by omega), List.append_assoc]
 rw [e] at hk
 refine ⟨⟨h.1, ho, g, cap, by rw [List.length_set, hn], by rw [List.length_set]; omega, ?_⟩, hk.2⟩
 have e2 : (pre ++ xs.set i.toNat x ++ post).length = (pre ++ xs ++ post).length := by simp
 rw [e2]
 exact hk.1
end
end Go.Proofs.YtihbebbabjklkaaGreatDoor
