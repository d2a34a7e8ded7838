import Derived.Test.YthnfajboebaajaaGreatDoorAW
import Derived.Test.YthnfajboebaajaaGreatDoorProg
import Derived.KernelRfl
import Derived.Shelf.Strings.Builder1
import Derived.Shelf.Strings.Builder2
import Derived.Shelf.Strings.Trim
import Derived.Shelf.Small.Utf8
import Derived.Shelf.Small.Strs
import Derived.Shelf.Small.Wraps
import Derived.Shelf.Strings.BuilderF
import Derived.Shelf.Strings.BuilderK
import Derived.Shelf.Strconv.Atoi
import Derived.Shelf.Strconv.Itoa0
import Derived.Shelf.Strconv.Itoa1
import Derived.Shelf.LaysM
import Derived.Shelf.Strconv.Itoa2
import Derived.Shelf.Strconv.Itoa3
import Derived.Shelf.Strings.Search1
import Derived.Shelf.Strings.Search2
import Derived.Shelf.Strings.Search3
import Derived.Shelf.Strings.Shaped
import Derived.Shelf.Strings.Prefix
import Derived.Shelf.Strings.Runes
import Derived.Shelf.Strings.AsciiSet
import Derived.Shelf.Bits.Mul64
import Derived.Shelf.Strings.Repeat
import Derived.Shelf.Unicode.DecodeSlow
import Derived.Shelf.Strings.SlTrimAscii
import Derived.Test.YthnfajboebaajaaGreatDoorAD
import Derived.Lib.LaidTab
import Derived.Lib.AppendIntMem
import Derived.RangeFuncNested
import Derived.RangeFuncBound
import Derived.RangeFuncCalls
import Derived.RangeFuncLeaves
import Derived.Shelf.Abstract
import Derived.Shelf.RegionOpen
import Derived.WalkKit
import Derived.OwnWalkIn
import Derived.TacticsInMore
import Derived.LoopNIn
import Derived.LoopIn
import Derived.Lib.Hide
set_option maxHeartbeats 8000000
set_option maxRecDepth 100000
set_option linter.unusedVariables false
namespace Go.Proofs.YthnfajboebaajaaGreatDoor
open Go.RowKit Go.Proofs.YthnfajboebaajaaGreatDoorW.PrintWords Go.Proofs.YthnfajboebaajaaGreatDoorW.PrintLast Go.Proofs.YthnfajboebaajaaGreatDoorW.PrintMore
theorem bq {B : Nat} {w W : World} (h : Below B w W := by repeat (first | (with_reducible first | exact HB.out | apply below_alloc | apply pw_below_drewN | apply below_drew1) | exact HB.out)) : Below B w W := h
theorem goB {P : Program} {ops : Array Oper} {Q : Exit → Act → World → Prop} {rest : List Oper} {oi : Oper} {a : Act} {W w0 : World} {f : FuncId} {fn : Func} {ars : Array Operand} {ts : Array TypeId} {v : Value} (N : Option Tmp) (hf : P.funcs[f]? = some fn) (args : Array Value)
    (hB : Below w0.heap.size w0 W) (hc : Calls P f args W fun e w' => e = .returned v ∧ Below W.heap.size W w') (K : ∀ w', Aside0 (Below w0.heap.size w0 w') → wpList P ops Q rest (a.put N v) w')
    (hd : oi.dst = N := by rfl) (hg : oi.guard = none := by rfl) (hname : (fn.name == "runtime.NumGoroutine") = false := by kernel_rfl) (hb : fn.body.isSome = true := by rfl) (hop : oi.op = .call { callee := .value (.func f), args := ars, argTypes := ts } := by rfl)
    (hargs : ars.map a.eval = args := by (try simp only [List.map_toArray, List.map_cons, List.map_nil]); first | done | rfl | (simp only [List.length_drop, List.length_take]; rfl)) : wpList P ops Q (oi :: rest) a W := by
  refine goesL_ N hd hg hf hname hb args hop hargs (hc.mono ?_)
  rintro e w' ⟨rfl, hb⟩
  exact ⟨_, rfl, K w' (Aside0.mk (below_step hB hb))⟩
theorem goD {P : Program} {ops : Array Oper} {Q : Exit → Act → World → Prop} {rest : List Oper} {oi : Oper} {a : Act} {W : World} {f : FuncId} {fn : Func} {ars : Array Operand} {ts : Array TypeId} {v : Value} (N : Option Tmp) (hf : P.funcs[f]? = some fn) (args : Array Value)
    (hc : Calls P f args W fun e w' => e = .returned v ∧ Drawn0 W w') (K : ∀ nd, wpList P ops Q rest (a.put N v) (W.drewN nd))
    (hd : oi.dst = N := by rfl) (hg : oi.guard = none := by rfl) (hname : (fn.name == "runtime.NumGoroutine") = false := by kernel_rfl) (hb : fn.body.isSome = true := by rfl) (hop : oi.op = .call { callee := .value (.func f), args := ars, argTypes := ts } := by rfl)
    (hargs : ars.map a.eval = args := by (try simp only [List.map_toArray, List.map_cons, List.map_nil]); first | done | rfl | (simp only [List.length_drop, List.length_take]; rfl)) : wpList P ops Q (oi :: rest) a W := by
  refine goesL_ N hd hg hf hname hb args hop hargs (hc.mono ?_)
  rintro e w' ⟨rfl, ⟨nd, rfl⟩⟩
  exact ⟨_, rfl, K nd⟩
theorem bnd {α β : Type} {o : Option α} {f : α → Option β} {r : β} (h : o.bind f = some r) : ∃ x, Aside0 (o = some x) ∧ f x = some r := by
 obtain ⟨x, h1, h2⟩ := Option.bind_eq_some_iff.mp h
 exact ⟨x, ⟨h1⟩, h2⟩
theorem bqs {B : Nat} {w W : World} (h : Below B w W := by repeat (first | (with_reducible first | exact HB.out | apply below_alloc | apply pw_below_drewN | apply below_drew1 | refine below_set ?_ (Aside0.out (by with_reducible assumption))) | exact HB.out)) : Below B w W := h
theorem kqs {w W : World} {S : Nat → Prop} (h : Kept w W S := by repeat (first | (with_reducible first | exact HK.out | apply Kept.alloc | apply Kept.drewN | apply Kept.drew | refine Kept.setCell ?_ (.inr (Aside0.out (by with_reducible assumption))) _) | exact HK.out)) : Kept w W S := h
theorem rq {α : Type} {d : Kd α} {e base : Nat} {ok : Nat → Prop} {W0 W : World} {v : Value} {xs : List α} (h0 : Aside0 (d.R e W0 base ok v xs)) (s : d.R e W0 base ok v xs → d.R e W base ok v xs := by intro h_; (with_reducible repeat (first | apply Kd.R_alloc | apply Kd.R_drewN | apply Kd.R_drew)); exact h_) : d.R e W base ok v xs := s h0.out
theorem vq {α : Type} {d : Kd α} {e base : Nat} {ok : Nat → Prop} {W0 W : World} {v : Value} {xs : List α} (h0 : Aside0 (d.V e W0 base ok v xs)) (s : d.V e W0 base ok v xs → d.V e W base ok v xs := by intro h_; (with_reducible repeat (first | apply Kd.V_alloc | apply Kd.V_drewN | apply Kd.V_drew)); exact h_) : d.V e W base ok v xs := s h0.out
theorem fR {α : Type} {d : Kd α} {e base : Nat} {ok : Nat → Prop} {W0 W w' : World} {v : Value} {xs : List α} (h0 : Aside0 (d.R e W0 base ok v xs)) (hb : Below W.heap.size W w') (s : d.R e W0 base ok v xs → d.R e W base ok v xs := by intro h_; (with_reducible repeat (first | apply Kd.R_alloc | apply Kd.R_drewN | apply Kd.R_drew)); exact h_) : Aside0 (d.R e w' base ok v xs) := ⟨Kd.R_below (s h0.out) hb⟩
theorem fV {α : Type} {d : Kd α} {e base : Nat} {ok : Nat → Prop} {W0 W w' : World} {v : Value} {xs : List α} (h0 : Aside0 (d.V e W0 base ok v xs)) (hb : Below W.heap.size W w') (s : d.V e W0 base ok v xs → d.V e W base ok v xs := by intro h_; (with_reducible repeat (first | apply Kd.V_alloc | apply Kd.V_drewN | apply Kd.V_drew)); exact h_) : Aside0 (d.V e w' base ok v xs) := ⟨Kd.V_below (s h0.out) hb⟩
theorem fB {w W0 W w' : World} (h0 : Aside0 (Below w.heap.size w W0)) (hb : Below W.heap.size W w') (s : Below w.heap.size w W := by exact bqs) : Aside0 (Below w.heap.size w w') := ⟨below_step s hb⟩
theorem fK {w W0 W w' : World} {S : Nat → Prop} (h0 : Aside0 (Kept w W0 S)) (hb : Below W.heap.size W w') (s : Kept w W S := by exact kqs) : Aside0 (Kept w w' S) := ⟨Kept.below s hb⟩
theorem fk {W0 W w' : World} {g : Nat} {o : Obj} (h0 : Aside0 (W0.heap[g]? = some o)) (hb : Below W.heap.size W w') (s : W0.heap[g]? = some o → W.heap[g]? = some o := by intro h_; (with_reducible repeat (first | refine blk_drewN ?_ _ | refine blk_drew ?_ | refine blk_alloc ?_ _)); exact h_) : Aside0 (w'.heap[g]? = some o) := ⟨blk_below (s h0.out) hb⟩
theorem fE {w W0 W : World} {g : Nat} (h0 : Aside0 (Below w.heap.size w W0)) (hg : g = W.heap.size) (s : Below w.heap.size w W := by exact bqs) : Aside0 (w.heap.size ≤ g) := ⟨hg ▸ below_size s⟩
theorem fW {w W0 W : World} {S : Nat → Prop} {g : Nat} (h0 : Aside0 (Kept w W0 S)) (hg : g = W.heap.size) (s : Kept w W S := by exact kqs) : Aside0 (w.heap.size ≤ g) := ⟨hg ▸ s.1⟩
theorem fl {W0 W : World} {g g' : Nat} {o : Obj} (h0 : Aside0 (W0.heap[g]? = some o)) (hg : g' = W.heap.size) (s : W0.heap[g]? = some o → W.heap[g]? = some o := by intro h_; (with_reducible repeat (first | refine blk_drewN ?_ _ | refine blk_drew ?_ | refine blk_alloc ?_ _)); exact h_) : Aside0 (g ≠ g') := ⟨hg ▸ Nat.ne_of_lt (blk_lt (s h0.out))⟩
theorem fg {W0 W : World} {g g' : Nat} {o : Obj} (h0 : Aside0 (W0.heap[g]? = some o)) (hg : g' = W.heap.size) (s : W0.heap[g]? = some o → W.heap[g]? = some o := by intro h_; (with_reducible repeat (first | refine blk_drewN ?_ _ | refine blk_drew ?_ | refine blk_alloc ?_ _)); exact h_) : Aside0 (g' ≠ g) := ⟨hg ▸ Nat.ne_of_gt (blk_lt (s h0.out))⟩
theorem bxE {P : Program} {ops : Array Oper} {rest : List Oper} {o : Oper} {a : Act} {Q : Exit → Act → World → Prop} {W : World} (N : Tmp) (cs : Array Value) (t : TypeId)
  (h : ∀ (g : Nat), g = W.heap.size → ∀ (w1 : World), w1.heap[g]? = some (Obj.cells cs t) → Below W.heap.size W w1 → wpList P ops Q rest (a.put o.dst (Value.pointer (some ⟨g, 0, none⟩))) w1)
  (hd : o.dst = some N := by rfl) (hg : o.guard = none := by rfl) (hr : Sem.run P (execOp a.eval o) W = Result.ok (Next.value (Value.pointer (some ⟨W.heap.size, 0, none⟩))) (W.alloc (Obj.cells cs t)) := by first | (go_simp; done) | (go_simp; rfl)) : wpList P ops Q (o :: rest) a W := box_event hg hd hr h
theorem finD {p q : Prop} (h : p := by first | rfl | (simp; done) | (simp [*]; done)) (k : q := by repeat (first | exact Drawn0.refl _ | apply Drawn0.step)) : p ∧ q := ⟨h, k⟩
section
variable {α β : Type} {p : Prop} {x y : Option α} {r : α} {s : Option α} {a b : β} {i j : Int}
theorem gn [Decidable p] (h : (if p then x else none) = some r) : p ∧ x = some r := by
 by_cases c : p
 ·rw [if_pos c] at h; exact ⟨c, h⟩
 ·rw [if_neg c] at h; cases h
theorem gd [Decidable p] (h : (if p then x else none) = some r) : p ∧ decide p = true ∧ x = some r := ⟨(gn h).1, decide_eq_true (gn h).1, (gn h).2⟩
theorem gt [Decidable p] (h : (if p then x else none) = some r) : p ∧ p = True ∧ decide p = true ∧ x = some r := ⟨(gn h).1, eq_true (gn h).1, decide_eq_true (gn h).1, (gn h).2⟩
theorem jn [Decidable p] (h : (if p then x else y) = s) : p ∧ x = s ∨ ¬p ∧ y = s := by
 by_cases c : p
 ·rw [if_pos c] at h; exact .inl ⟨c, h⟩
 ·rw [if_neg c] at h; exact .inr ⟨c, h⟩
theorem jd [Decidable p] (h : (if p then x else y) = s) : p ∧ decide p = true ∧ x = s ∨ ¬p ∧ decide p = false ∧ y = s := (jn h).imp (fun c => ⟨c.1, decide_eq_true c.1, c.2⟩) fun c => ⟨c.1, decide_eq_false c.1, c.2⟩
theorem jg (h : (if i > j then x else y) = s) : i > j ∧ decide (j < i) = true ∧ x = s ∨ ¬i > j ∧ decide (j < i) = false ∧ y = s := jd h
theorem jh (h : (if i ≥ j then x else y) = s) : i ≥ j ∧ decide (j ≤ i) = true ∧ x = s ∨ ¬i ≥ j ∧ decide (j ≤ i) = false ∧ y = s := jd h
theorem je [BEq β] [LawfulBEq β] [Decidable (a = b)] (h : (if a = b then x else y) = s) : a = b ∧ (a == b) = true ∧ (a != b) = false ∧ x = s ∨ ¬a = b ∧ (a == b) = false ∧ (a != b) = true ∧ y = s := (jn h).imp (fun c => ⟨c.1, beq_iff_eq.mpr c.1, bne_eq_false_iff_eq.mpr c.1, c.2⟩) fun c => ⟨c.1, beq_eq_false_iff_ne.mpr c.1, bne_iff_ne.mpr c.1, c.2⟩
theorem fQ [BEq β] [LawfulBEq β] [Decidable (a = b)] (h : (if a = b then none else y) = some r) : ¬a = b ∧ (a == b) = false ∧ (a != b) = true ∧ y = some r := (je h).elim (fun c => nomatch c.2.2.2) id
end
theorem yb {α β : Type} {e : α} {f : α → Option β} {r : Option β} (h : (some e).bind f = r) : ∃ y, Aside0 (y = e) ∧ f y = r := ⟨e, ⟨rfl⟩, h⟩
theorem cq {α : Type} {k : Kd α} {w0 W : World} {A : Option Addr} {n : Nat} {xs : List α} (h : k.C w0 A n xs) (s : k.C w0 A n xs → k.C W A n xs := by intro h_; repeat (first | exact h_ | (with_reducible refine Kd.C_alloc ?_ _) | (with_reducible refine Kd.C_drewN ?_ _) | (with_reducible refine Kd.C_drew ?_))) : k.C W A n xs := s h
theorem hq {W0 W : World} {g : Nat} {o : Obj} (h0 : Aside0 (W0.heap[g]? = some o)) (s : W0.heap[g]? = some o → W.heap[g]? = some o := by intro h_; (with_reducible repeat (first | refine blk_drewN ?_ _ | refine blk_drew ?_ | refine blk_alloc ?_ _)); exact h_) : W.heap[g]? = some o := s h0.out
theorem fN {α : Type} {d : Kd α} {e : Nat} {ok : Nat → Prop} {w W w' : World} {v : Value} {xs : List α} (h : d.R e w' W.heap.size ok v xs) (s : Below w.heap.size w W := by exact bqs) : Aside0 (d.R e w' w.heap.size ok v xs) := ⟨Kd.R_lower h (below_size s)⟩
theorem od {P : Prop} [Decidable P] (h : decide P = true := by first | (with_reducible assumption) | assumption) : P := of_decide_eq_true h
theorem fe {p : Prop} (h : p := by first | rfl | (simp [errW_none, errW_some] <;> rfl) | (simp [*, errW_none, errW_some] <;> rfl)) : p := h
theorem finE {p q : Prop} (h : p := by first | rfl | (simp [errW_none, errW_some] <;> rfl) | (simp [*, errW_none, errW_some] <;> rfl)) (k : q := by exact bqs) : p ∧ q := ⟨h, k⟩
theorem fs {p : Prop} (h : p := by first | rfl | (simp; done) | (simp [*]; done)) : p := h
section
variable {w w' : World} {A : Option Addr} {n : Nat} {k : IntKind} {xs : List Int} {ss : List ByteArray}
theorem atI (h : (Kd.int k).C w A n xs) (i : Int) (p : 0 ≤ i := by exact od) (q : i < n := by exact od) : ∃ ad, A = some ad ∧ w.cell? (ad.add i.toNat) = some (.int k (rd xs i)) ∧ (0 ≤ i) = True ∧ (i < n) = True :=
 let ⟨ad, h1, h2⟩ := Kd.at_int h i p q; ⟨ad, h1, h2, eq_true p, eq_true q⟩
theorem atB (HB : Aside0 (Below w.heap.size w w')) (h : (Kd.int k).C w A n xs) (i : Int) (p : 0 ≤ i := by exact od) (q : i < n := by exact od) : ∃ ad, A = some ad ∧ w'.cell? (ad.add i.toNat) = some (.int k (rd xs i)) ∧ (0 ≤ i) = True ∧ (i < n) = True :=
 let ⟨ad, h1, h2⟩ := Kd.at_int h i p q; ⟨ad, h1, (HB.out.cell (World.block_lt_of_cell? w _ h2)).trans h2, eq_true p, eq_true q⟩
theorem asI (h : Kd.string.C w A n ss) (i : Int) (p : 0 ≤ i := by exact od) (q : i < n := by exact od) : ∃ ad, A = some ad ∧ w.cell? (ad.add i.toNat) = some (.string (rdOf ByteArray.empty ss i)) ∧ (0 ≤ i) = True ∧ (i < n) = True :=
 let ⟨ad, h1, h2⟩ := Kd.at_string h i p q; ⟨ad, h1, h2, eq_true p, eq_true q⟩
theorem btA (a : ByteArray) (i : Int) (p : 0 ≤ i := by exact od) (q : i < (a.size : Int) := by exact od) : (∀ h : i.toNat < a.size, ((a[i.toNat]'h).toNat : Int) = bt a i) ∧ (0 ≤ i) = True ∧ (i < (a.size : Int)) = True := ⟨bt_at a i, eq_true p, eq_true q⟩
theorem b2 {g : Nat} {t : TypeId} {c d : Value} (h : Aside0 (w.heap[g]? = some (.cells #[c, d] t (0, 0)))) : w.cell? ⟨g, 0, none⟩ = some c ∧ w.cell? ⟨g, 1, none⟩ = some d ∧ w.frozen? ⟨g, 0, none⟩ = false ∧ w.frozen? ⟨g, 1, none⟩ = false :=
 ⟨(blk_cell h.out 0).trans rfl, (blk_cell h.out 1).trans rfl, blk_frozen h.out 0, blk_frozen h.out 1⟩
theorem b4 {g : Nat} {t : TypeId} {c d e f : Value} (h : Aside0 (w.heap[g]? = some (.cells #[c, d, e, f] t (0, 0)))) : w.cell? ⟨g, 0, none⟩ = some c ∧ w.cell? ⟨g, 1, none⟩ = some d ∧ w.cell? ⟨g, 2, none⟩ = some e ∧ w.cell? ⟨g, 3, none⟩ = some f ∧ w.frozen? ⟨g, 0, none⟩ = false ∧ w.frozen? ⟨g, 1, none⟩ = false ∧ w.frozen? ⟨g, 2, none⟩ = false ∧ w.frozen? ⟨g, 3, none⟩ = false :=
 ⟨(blk_cell h.out 0).trans rfl, (blk_cell h.out 1).trans rfl, (blk_cell h.out 2).trans rfl, (blk_cell h.out 3).trans rfl, blk_frozen h.out 0, blk_frozen h.out 1, blk_frozen h.out 2, blk_frozen h.out 3⟩
end
section
variable {P : Program} {ops : Array Oper} {Q : Exit → Act → World → Prop} {rest : List Oper} {o : Oper} {a : Act} {W : World}
theorem gc_ (f : FuncId) {ars : Array Operand} {ts : Array TypeId} (_ho : o.op = .call { callee := .value (.func f), args := ars, argTypes := ts }) (h : wpList P ops Q (o :: rest) a W) : wpList P ops Q (o :: rest) a W := h
theorem gd_ (N : Tmp) (_hN : o.dst = some N) (h : wpList P ops Q (o :: rest) a W) : wpList P ops Q (o :: rest) a W := h
theorem gL {f : FuncId} {fn : Func} {ars : Array Operand} {ts : Array TypeId} {args : Array Value} {R : Ending → World → Prop} (N : Tmp) (hf : P.funcs[f]? = some fn)
  (hc : Calls P f args W R) (K : ∀ e w', R e w' → ∃ v, e = .returned v ∧ wpList P ops Q rest (a.put (some N) v) w')
  (hd : o.dst = some N := by rfl) (hg : o.guard = none := by rfl) (hname : (fn.name == "runtime.NumGoroutine") = false := by kernel_rfl) (hb : fn.body.isSome = true := by rfl) (hop : o.op = .call { callee := .value (.func f), args := ars, argTypes := ts } := by rfl)
  (hargs : ars.map a.eval = args := by (try simp only [List.map_toArray, List.map_cons, List.map_nil]); first | done | rfl | (simp only [List.length_drop, List.length_take]; rfl)) : wpList P ops Q (o :: rest) a W :=
 goesL_ (some N) hd hg hf hname hb args hop hargs (hc.mono K)
end
end Go.Proofs.YthnfajboebaajaaGreatDoor
namespace Go.Proofs.YthnfajboebaajaaGreatDoor.PA
open Go.RowKit Go.Proofs.YthnfajboebaajaaGreatDoorW.PrintWords Go.Proofs.YthnfajboebaajaaGreatDoorW.PrintLast Go.Proofs.YthnfajboebaajaaGreatDoorW.PrintMore
attribute [local go_sem] max2_int min2_int max_two min_two max_three min_three max_four min_four
set_option linter.unusedVariables false
set_option linter.unusedSimpArgs false
def errW : Option Int → Value
  | none => .nilIface
  | some c => .iface 0 (.int .i64 c)
theorem errW_none : errW none = .nilIface := rfl
theorem errW_some (c : Int) : errW (some c) = .iface 0 (.int .i64 c) := rfl
theorem info3 : (Tryz.prog.info? 3).map (fun i => (i.zero, i.size, i.bytes)) = some (some (.int .i64 0), 1, 8) := by kernel_rfl
theorem info5 : (Tryz.prog.info? 5).map (fun i => (i.zero, i.size, i.bytes)) = some (some (.int .u8 0), 1, 1) := by kernel_rfl
end Go.Proofs.YthnfajboebaajaaGreatDoor.PA
namespace Go.Proofs
open Go.Shelf
def Tryz.lays169_ren : Go.Shelf.Ren := ⟨fun | 169 => 132 | n => n, fun | 70 => 125 | 9 => 9 | 0 => 0 | 72 => 127 | 37 => 101 | 127 => 163 | 3 => 3 | 5 => 5 | n => n, fun | n => n⟩
theorem Tryz.lays169 : Go.Proofs.Lays.n169 Tryz.prog Tryz.lays169_ren := {
 mixed := by kernel_rfl
 f169 := Tryz.func132.trans (congrArg some (by kernel_rfl))
 t0 := Tryz.underlying0
 a0 := Tryz.isAgg0
 z0 := Tryz.sizeOf0
 v0 := Tryz.zeroValue0
 t3 := Tryz.underlying3
 a3 := Tryz.isAgg3
 z3 := Tryz.sizeOf3
 v3 := Tryz.zeroValue3
 t9 := Tryz.underlying9
 a9 := Tryz.isAgg9
 z9 := Tryz.sizeOf9
 v9 := Tryz.zeroValue9
 t37 := Tryz.underlying101
 a37 := Tryz.isAgg101
 z37 := Tryz.sizeOf101
 v37 := Tryz.zeroValue101
 t70 := Tryz.underlying125
 a70 := Tryz.isAgg125
 z70 := Tryz.sizeOf125
 v70 := Tryz.zeroValue125
 t72 := Tryz.underlying127
 a72 := Tryz.isAgg127
 z72 := Tryz.sizeOf127
 v72 := Tryz.zeroValue127
 t127 := Tryz.underlying163
 a127 := Tryz.isAgg163
 z127 := Tryz.sizeOf163
 v127 := Tryz.zeroValue163 }
theorem Tryz.Builder_Extra_169 : Builder.Extra Tryz.prog Tryz.lays169_ren := {
 sizeBuilder := by kernel_rfl
 liesBuilder := by kernel_rfl
 t5 := Tryz.underlying5
 a5 := Tryz.isAgg5
 z5 := Tryz.sizeOf5
 v5 := Tryz.zeroValue5
 infoByte := by kernel_rfl
 cellsByte := by kernel_rfl
 sizeByte := by kernel_rfl
 neB5 := by decide }
def Tryz.lays160_ren : Go.Shelf.Ren := ⟨fun | 160 => 160 | 232 => 186 | 231 => 185 | 227 => 187 | 234 => 189 | 233 => 188 | 236 => 191 | 235 => 190 | 228 => 203 | 271 => 206 | 151 => 205 | 197 => 204 | 120 => 216 | 152 => 215 | 260 => 214 | 137 => 112 | 119 => 227 | 224 => 182 | 225 => 181 | 217 => 150 | 266 => 180 | n => n, fun | 9 => 9 | 4 => 4 | 3 => 3 | 5 => 5 | 117 => 170 | 116 => 169 | 0 => 0 | 124 => 173 | 21 => 21 | 105 => 188 | 46 => 159 | 119 => 209 | 139 => 212 | 138 => 211 | n => n, fun | 3 => 2 | 4 => 3 | n => n⟩
theorem Tryz.lays160 : Go.Proofs.Lays.n160 Tryz.prog Tryz.lays160_ren := {
 mixed := by kernel_rfl
 f119 := Tryz.func227.trans (congrArg some (by kernel_rfl))
 f120 := Tryz.func216.trans (congrArg some (by kernel_rfl))
 f137 := Tryz.func112.trans (congrArg some (by kernel_rfl))
 f151 := Tryz.func205.trans (congrArg some (by kernel_rfl))
 f152 := Tryz.func215.trans (congrArg some (by kernel_rfl))
 f160 := Tryz.func160.trans (congrArg some (by kernel_rfl))
 f197 := Tryz.func204.trans (congrArg some (by kernel_rfl))
 f217 := Tryz.func150.trans (congrArg some (by kernel_rfl))
 f224 := Tryz.func182.trans (congrArg some (by kernel_rfl))
 f225 := Tryz.func181.trans (congrArg some (by kernel_rfl))
 f227 := Tryz.func187.trans (congrArg some (by kernel_rfl))
 f228 := Tryz.func203.trans (congrArg some (by kernel_rfl))
 f231 := Tryz.func185.trans (congrArg some (by kernel_rfl))
 f232 := Tryz.func186.trans (congrArg some (by kernel_rfl))
 f233 := Tryz.func188.trans (congrArg some (by kernel_rfl))
 f234 := Tryz.func189.trans (congrArg some (by kernel_rfl))
 f235 := Tryz.func190.trans (congrArg some (by kernel_rfl))
 f236 := Tryz.func191.trans (congrArg some (by kernel_rfl))
 f260 := Tryz.func214.trans (congrArg some (by kernel_rfl))
 f266 := Tryz.func180.trans (congrArg some (by kernel_rfl))
 f271 := Tryz.func206.trans (congrArg some (by kernel_rfl))
 t0 := Tryz.underlying0
 a0 := Tryz.isAgg0
 z0 := Tryz.sizeOf0
 v0 := Tryz.zeroValue0
 t3 := Tryz.underlying3
 a3 := Tryz.isAgg3
 z3 := Tryz.sizeOf3
 v3 := Tryz.zeroValue3
 t4 := Tryz.underlying4
 a4 := Tryz.isAgg4
 z4 := Tryz.sizeOf4
 v4 := Tryz.zeroValue4
 t5 := Tryz.underlying5
 a5 := Tryz.isAgg5
 z5 := Tryz.sizeOf5
 v5 := Tryz.zeroValue5
 t9 := Tryz.underlying9
 a9 := Tryz.isAgg9
 z9 := Tryz.sizeOf9
 v9 := Tryz.zeroValue9
 t21 := Tryz.underlying21
 a21 := Tryz.isAgg21
 z21 := Tryz.sizeOf21
 v21 := Tryz.zeroValue21
 t46 := Tryz.underlying159
 a46 := Tryz.isAgg159
 z46 := Tryz.sizeOf159
 v46 := Tryz.zeroValue159
 t105 := Tryz.underlying188
 a105 := Tryz.isAgg188
 z105 := Tryz.sizeOf188
 v105 := Tryz.zeroValue188
 t116 := Tryz.underlying169
 a116 := Tryz.isAgg169
 z116 := Tryz.sizeOf169
 t117 := Tryz.underlying170
 a117 := Tryz.isAgg170
 z117 := Tryz.sizeOf170
 v117 := Tryz.zeroValue170
 t119 := Tryz.underlying209
 a119 := Tryz.isAgg209
 z119 := Tryz.sizeOf209
 t124 := Tryz.underlying173
 a124 := Tryz.isAgg173
 z124 := Tryz.sizeOf173
 v124 := Tryz.zeroValue173
 t138 := Tryz.underlying211
 a138 := Tryz.isAgg211
 z138 := Tryz.sizeOf211
 v138 := Tryz.zeroValue211
 t139 := Tryz.underlying212
 a139 := Tryz.isAgg212
 z139 := Tryz.sizeOf212
 v139 := Tryz.zeroValue212
 g3 := by kernel_rfl
 g4 := by kernel_rfl }
def Tryz.lays137_ren : Go.Shelf.Ren := ⟨fun | 137 => 112 | 217 => 150 | 266 => 180 | n => n, fun | 9 => 9 | 5 => 5 | 3 => 3 | n => n, fun | n => n⟩
theorem Tryz.lays137 : Go.Proofs.Lays.n137 Tryz.prog Tryz.lays137_ren := {
 mixed := by kernel_rfl
 f137 := Tryz.func112.trans (congrArg some (by kernel_rfl))
 f217 := Tryz.func150.trans (congrArg some (by kernel_rfl))
 f266 := Tryz.func180.trans (congrArg some (by kernel_rfl))
 t3 := Tryz.underlying3
 a3 := Tryz.isAgg3
 z3 := Tryz.sizeOf3
 v3 := Tryz.zeroValue3
 t5 := Tryz.underlying5
 a5 := Tryz.isAgg5
 z5 := Tryz.sizeOf5
 v5 := Tryz.zeroValue5
 t9 := Tryz.underlying9
 a9 := Tryz.isAgg9
 z9 := Tryz.sizeOf9
 v9 := Tryz.zeroValue9 }
open Go.RowKit in
theorem Tryz.strings_IndexByte (s : ByteArray) (c : Int) (w : World) :
  Calls Tryz.prog 112 #[.string s, .int .u8 c] w fun e w' => e = .returned (.int .i64 (Lib.indexByte s.data.toList c.toNat.toUInt8)) ∧ w' = w := Any.strings_IndexByte Tryz.lays137 s c w
def Tryz.lays103_ren : Go.Shelf.Ren := ⟨fun | 103 => 159 | 210 => 184 | 206 => 179 | n => n, fun | 9 => 9 | 4 => 4 | 24 => 152 | 3 => 3 | n => n, fun | n => n⟩
theorem Tryz.lays103 : Go.Proofs.Lays.n103 Tryz.prog Tryz.lays103_ren := {
 mixed := by kernel_rfl
 f103 := Tryz.func159.trans (congrArg some (by kernel_rfl))
 f206 := Tryz.func179.trans (congrArg some (by kernel_rfl))
 f210 := Tryz.func184.trans (congrArg some (by kernel_rfl))
 t3 := Tryz.underlying3
 a3 := Tryz.isAgg3
 z3 := Tryz.sizeOf3
 v3 := Tryz.zeroValue3
 t4 := Tryz.underlying4
 a4 := Tryz.isAgg4
 z4 := Tryz.sizeOf4
 v4 := Tryz.zeroValue4
 t9 := Tryz.underlying9
 a9 := Tryz.isAgg9
 z9 := Tryz.sizeOf9
 v9 := Tryz.zeroValue9
 t24 := Tryz.underlying152
 a24 := Tryz.isAgg152
 z24 := Tryz.sizeOf152
 v24 := Tryz.zeroValue152 }
open Go.RowKit in
theorem Tryz.strings_CutPrefix (s p : ByteArray) (w : World) :
  Calls Tryz.prog 159 #[.string s, .string p] w fun e w' => e = .returned (.tuple #[.string ⟨(Lib.trimPrefix s.data.toList p.data.toList).toArray⟩, .bool (Lib.hasPrefix s.data.toList p.data.toList)]) ∧ w' = w := Any.strings_CutPrefix Tryz.lays103 s p w
open Go.RowKit in
theorem Tryz.Builder_String_any_k (B b : Nat) (l : List UInt8) (w : World) (h : Lib.IsBuilderF 127 5 B b (Lib.byteCells l) w) (hBw : B ≤ w.heap.size) :
  Calls Tryz.prog 132 #[.pointer (some ⟨b, 0, none⟩)] w fun e w' => e = .returned (.string ⟨l.toArray⟩) ∧ (Lib.IsBuilderF 127 5 B b (Lib.byteCells l) w' ∧ Below B w w' ∧ Lib.OthersKept 5 (some b) w w') := Any.Builder_String_any_k Tryz.lays169 Tryz.Builder_Extra_169 B b l w h hBw
def Tryz.lays172_ren : Go.Shelf.Ren := ⟨fun | 172 => 194 | 244 => 207 | 245 => 208 | 247 => 217 | 279 => 218 | 280 => 219 | 281 => 220 | 282 => 221 | 287 => 228 | 316 => 229 | 171 => 129 | 205 => 230 | 321 => 233 | 322 => 234 | 243 => 168 | 246 => 196 | 283 => 209 | 284 => 210 | 285 => 211 | 286 => 212 | 129 => 223 | 317 => 222 | 318 => 224 | 319 => 225 | 320 => 226 | 337 => 231 | 338 => 232 | n => n, fun | 9 => 9 | 3 => 3 | 75 => 129 | 76 => 135 | 4 => 4 | 5 => 5 | 167 => 199 | 37 => 101 | 0 => 0 | 85 => 200 | 2 => 2 | 168 => 202 | 53 => 182 | 175 => 214 | 46 => 159 | 210 => 218 | 127 => 163 | 145 => 225 | 143 => 223 | 21 => 21 | 171 => 192 | 173 => 195 | 212 => 206 | 51 => 179 | 20 => 20 | 213 => 207 | 232 => 226 | 233 => 227 | 80 => 138 | n => n, fun | 15 => 4 | 16 => 5 | 17 => 1 | 18 => 6 | 19 => 7 | n => n⟩
theorem Tryz.lays172 : Go.Proofs.Lays.n172 Tryz.prog Tryz.lays172_ren := {
 mixed := by kernel_rfl
 f129 := Tryz.func223.trans (congrArg some (by kernel_rfl))
 f171 := Tryz.func129.trans (congrArg some (by kernel_rfl))
 f172 := Tryz.func194.trans (congrArg some (by kernel_rfl))
 f205 := Tryz.func230.trans (congrArg some (by kernel_rfl))
 f243 := Tryz.func168.trans (congrArg some (by kernel_rfl))
 f244 := Tryz.func207.trans (congrArg some (by kernel_rfl))
 f245 := Tryz.func208.trans (congrArg some (by kernel_rfl))
 f246 := Tryz.func196.trans (congrArg some (by kernel_rfl))
 f247 := Tryz.func217.trans (congrArg some (by kernel_rfl))
 f279 := Tryz.func218.trans (congrArg some (by kernel_rfl))
 f280 := Tryz.func219.trans (congrArg some (by kernel_rfl))
 f281 := Tryz.func220.trans (congrArg some (by kernel_rfl))
 f282 := Tryz.func221.trans (congrArg some (by kernel_rfl))
 f283 := Tryz.func209.trans (congrArg some (by kernel_rfl))
 f284 := Tryz.func210.trans (congrArg some (by kernel_rfl))
 f285 := Tryz.func211.trans (congrArg some (by kernel_rfl))
 f286 := Tryz.func212.trans (congrArg some (by kernel_rfl))
 f287 := Tryz.func228.trans (congrArg some (by kernel_rfl))
 f316 := Tryz.func229.trans (congrArg some (by kernel_rfl))
 f317 := Tryz.func222.trans (congrArg some (by kernel_rfl))
 f318 := Tryz.func224.trans (congrArg some (by kernel_rfl))
 f319 := Tryz.func225.trans (congrArg some (by kernel_rfl))
 f320 := Tryz.func226.trans (congrArg some (by kernel_rfl))
 f321 := Tryz.func233.trans (congrArg some (by kernel_rfl))
 f322 := Tryz.func234.trans (congrArg some (by kernel_rfl))
 f337 := Tryz.func231.trans (congrArg some (by kernel_rfl))
 f338 := Tryz.func232.trans (congrArg some (by kernel_rfl))
 t0 := Tryz.underlying0
 a0 := Tryz.isAgg0
 z0 := Tryz.sizeOf0
 v0 := Tryz.zeroValue0
 t2 := Tryz.underlying2
 a2 := Tryz.isAgg2
 z2 := Tryz.sizeOf2
 v2 := Tryz.zeroValue2
 t3 := Tryz.underlying3
 a3 := Tryz.isAgg3
 z3 := Tryz.sizeOf3
 v3 := Tryz.zeroValue3
 t4 := Tryz.underlying4
 a4 := Tryz.isAgg4
 z4 := Tryz.sizeOf4
 v4 := Tryz.zeroValue4
 t5 := Tryz.underlying5
 a5 := Tryz.isAgg5
 z5 := Tryz.sizeOf5
 v5 := Tryz.zeroValue5
 t9 := Tryz.underlying9
 a9 := Tryz.isAgg9
 z9 := Tryz.sizeOf9
 v9 := Tryz.zeroValue9
 t20 := Tryz.underlying20
 a20 := Tryz.isAgg20
 z20 := Tryz.sizeOf20
 v20 := Tryz.zeroValue20
 t21 := Tryz.underlying21
 a21 := Tryz.isAgg21
 z21 := Tryz.sizeOf21
 v21 := Tryz.zeroValue21
 t37 := Tryz.underlying101
 a37 := Tryz.isAgg101
 z37 := Tryz.sizeOf101
 v37 := Tryz.zeroValue101
 t46 := Tryz.underlying159
 a46 := Tryz.isAgg159
 z46 := Tryz.sizeOf159
 v46 := Tryz.zeroValue159
 t51 := Tryz.underlying179
 a51 := Tryz.isAgg179
 z51 := Tryz.sizeOf179
 v51 := Tryz.zeroValue179
 t53 := Tryz.underlying182
 a53 := Tryz.isAgg182
 z53 := Tryz.sizeOf182
 v53 := Tryz.zeroValue182
 t75 := Tryz.underlying129
 a75 := Tryz.isAgg129
 z75 := Tryz.sizeOf129
 v75 := Tryz.zeroValue129
 t76 := Tryz.underlying135
 a76 := Tryz.isAgg135
 z76 := Tryz.sizeOf135
 v76 := Tryz.zeroValue135
 t85 := Tryz.underlying200
 a85 := Tryz.isAgg200
 z85 := Tryz.sizeOf200
 v85 := Tryz.zeroValue200
 t127 := Tryz.underlying163
 a127 := Tryz.isAgg163
 z127 := Tryz.sizeOf163
 v127 := Tryz.zeroValue163
 t143 := Tryz.underlying223
 a143 := Tryz.isAgg223
 z143 := Tryz.sizeOf223
 v143 := Tryz.zeroValue223
 t145 := Tryz.underlying225
 a145 := Tryz.isAgg225
 z145 := Tryz.sizeOf225
 v145 := Tryz.zeroValue225
 t167 := Tryz.underlying199
 a167 := Tryz.isAgg199
 z167 := Tryz.sizeOf199
 v167 := Tryz.zeroValue199
 t168 := Tryz.underlying202
 a168 := Tryz.isAgg202
 z168 := Tryz.sizeOf202
 v168 := Tryz.zeroValue202
 t171 := Tryz.underlying192
 a171 := Tryz.isAgg192
 z171 := Tryz.sizeOf192
 v171 := Tryz.zeroValue192
 t173 := Tryz.underlying195
 a173 := Tryz.isAgg195
 z173 := Tryz.sizeOf195
 v173 := Tryz.zeroValue195
 t175 := Tryz.underlying214
 a175 := Tryz.isAgg214
 z175 := Tryz.sizeOf214
 v175 := Tryz.zeroValue214
 t210 := Tryz.underlying218
 a210 := Tryz.isAgg218
 z210 := Tryz.sizeOf218
 v210 := Tryz.zeroValue218
 t212 := Tryz.underlying206
 a212 := Tryz.isAgg206
 z212 := Tryz.sizeOf206
 v212 := Tryz.zeroValue206
 t213 := Tryz.underlying207
 a213 := Tryz.isAgg207
 z213 := Tryz.sizeOf207
 t232 := Tryz.underlying226
 a232 := Tryz.isAgg226
 z232 := Tryz.sizeOf226
 v232 := Tryz.zeroValue226
 t233 := Tryz.underlying227
 a233 := Tryz.isAgg227
 z233 := Tryz.sizeOf227
 v233 := Tryz.zeroValue227
 g15 := by kernel_rfl
 g16 := by kernel_rfl
 g17 := by kernel_rfl
 g18 := by kernel_rfl
 g19 := by kernel_rfl }
open Go.RowKit in
theorem Tryz.strconv_Atoi (s : ByteArray) (n : Int) (hl : s.size ≤ 18) (h : Lib.atoi s.data.toList = some n) (w : World) :
  Calls Tryz.prog 194 #[.string s] w fun e w' => e = .returned (.tuple #[.int .i64 n, .nilIface]) ∧ ∃ t, w' = Lib.bytesWorld w 5 t := Any.strconv_Atoi Tryz.lays172 s n hl h w
def Tryz.laysM171_ren : Go.Shelf.Ren := ⟨fun | 171 => 129 | 243 => 168 | 246 => 196 | 283 => 209 | 284 => 210 | 285 => 211 | 286 => 212 | 129 => 223 | 317 => 222 | 318 => 224 | 319 => 225 | 320 => 226 | 337 => 231 | 338 => 232 | n => n, fun | 3 => 3 | 9 => 9 | 2 => 2 | 4 => 4 | 171 => 192 | 0 => 0 | 53 => 182 | 37 => 101 | 5 => 5 | 173 => 195 | 212 => 206 | 51 => 179 | 20 => 20 | 213 => 207 | 46 => 159 | 232 => 226 | 233 => 227 | n => n, fun | 17 => 1 | 18 => 6 | 19 => 7 | n => n⟩
theorem Tryz.laysM171 : Go.Proofs.LaysM.n171 Tryz.prog Tryz.laysM171_ren := {
 mixed := by kernel_rfl
 f129 := Tryz.func223.trans (congrArg some (by kernel_rfl))
 f171 := Tryz.func129.trans (congrArg some (by kernel_rfl))
 f243 := Tryz.func168.trans (congrArg some (by kernel_rfl))
 f246 := Tryz.func196.trans (congrArg some (by kernel_rfl))
 f283 := Tryz.func209.trans (congrArg some (by kernel_rfl))
 f284 := Tryz.func210.trans (congrArg some (by kernel_rfl))
 f285 := Tryz.func211.trans (congrArg some (by kernel_rfl))
 f286 := Tryz.func212.trans (congrArg some (by kernel_rfl))
 f317 := Tryz.func222.trans (congrArg some (by kernel_rfl))
 f318 := Tryz.func224.trans (congrArg some (by kernel_rfl))
 f319 := Tryz.func225.trans (congrArg some (by kernel_rfl))
 f320 := Tryz.func226.trans (congrArg some (by kernel_rfl))
 f337 := Tryz.func231.trans (congrArg some (by kernel_rfl))
 f338 := Tryz.func232.trans (congrArg some (by kernel_rfl))
 t0 := Tryz.underlying0
 a0 := Tryz.isAgg0
 z0 := Tryz.sizeOf0
 v0 := Tryz.zeroValue0
 t2 := Tryz.underlying2
 a2 := Tryz.isAgg2
 z2 := Tryz.sizeOf2
 v2 := Tryz.zeroValue2
 t3 := Tryz.underlying3
 a3 := Tryz.isAgg3
 z3 := Tryz.sizeOf3
 v3 := Tryz.zeroValue3
 t4 := Tryz.underlying4
 a4 := Tryz.isAgg4
 z4 := Tryz.sizeOf4
 v4 := Tryz.zeroValue4
 t5 := Tryz.underlying5
 a5 := Tryz.isAgg5
 z5 := Tryz.sizeOf5
 v5 := Tryz.zeroValue5
 t9 := Tryz.underlying9
 a9 := Tryz.isAgg9
 z9 := Tryz.sizeOf9
 v9 := Tryz.zeroValue9
 t20 := Tryz.underlying20
 a20 := Tryz.isAgg20
 z20 := Tryz.sizeOf20
 v20 := Tryz.zeroValue20
 t37 := Tryz.underlying101
 a37 := Tryz.isAgg101
 z37 := Tryz.sizeOf101
 v37 := Tryz.zeroValue101
 t46 := Tryz.underlying159
 a46 := Tryz.isAgg159
 z46 := Tryz.sizeOf159
 v46 := Tryz.zeroValue159
 t51 := Tryz.underlying179
 a51 := Tryz.isAgg179
 z51 := Tryz.sizeOf179
 v51 := Tryz.zeroValue179
 t53 := Tryz.underlying182
 a53 := Tryz.isAgg182
 z53 := Tryz.sizeOf182
 v53 := Tryz.zeroValue182
 t171 := Tryz.underlying192
 a171 := Tryz.isAgg192
 z171 := Tryz.sizeOf192
 v171 := Tryz.zeroValue192
 t173 := Tryz.underlying195
 a173 := Tryz.isAgg195
 z173 := Tryz.sizeOf195
 v173 := Tryz.zeroValue195
 t212 := Tryz.underlying206
 a212 := Tryz.isAgg206
 z212 := Tryz.sizeOf206
 v212 := Tryz.zeroValue206
 t213 := Tryz.underlying207
 a213 := Tryz.isAgg207
 z213 := Tryz.sizeOf207
 t232 := Tryz.underlying226
 a232 := Tryz.isAgg226
 z232 := Tryz.sizeOf226
 v232 := Tryz.zeroValue226
 t233 := Tryz.underlying227
 a233 := Tryz.isAgg227
 z233 := Tryz.sizeOf227
 v233 := Tryz.zeroValue227
 g17 := by kernel_rfl
 g18 := by kernel_rfl
 g19 := by kernel_rfl
 i0 := by kernel_rfl
 i2 := by kernel_rfl
 i3 := by kernel_rfl
 i4 := by kernel_rfl
 i5 := by kernel_rfl
 i9 := by kernel_rfl
 i20 := by kernel_rfl
 i37 := by kernel_rfl
 i46 := by kernel_rfl
 i51 := by kernel_rfl
 i53 := by kernel_rfl
 i171 := by kernel_rfl
 i173 := by kernel_rfl
 i212 := by kernel_rfl
 i232 := by kernel_rfl
 i233 := by kernel_rfl
 m17 := by kernel_rfl
 m18 := by kernel_rfl
 m19 := by kernel_rfl }
open Go.RowKit Go.Sort Go.Lib in
theorem Tryz.strconv_Itoa (n : Int) (h0 : -9223372036854775808 ≤ n) (h1 : n ≤ 9223372036854775807) (w : World) (htab : Lib.TabIs Tryz.prog w "internal/strconv.uint64pow10" .u64 Lib.pow10Tab) :
  Calls Tryz.prog 129 #[.int .i64 n] w fun e w' => e = .returned (.string ⟨(Lib.itoa n).toArray⟩) ∧ ∃ k os, w' = grow (w.drewN k) os := Any.strconv_Itoa Tryz.laysM171 n h0 h1 w htab
def Tryz.lays144_ren : Go.Shelf.Ren := ⟨fun | 144 => 78 | 143 => 116 | 219 => 154 | 217 => 150 | 225 => 181 | 224 => 182 | 267 => 183 | 266 => 180 | 314 => 202 | n => n, fun | 9 => 9 | 4 => 4 | 3 => 3 | 5 => 5 | 46 => 159 | 146 => 180 | 51 => 179 | n => n, fun | 1 => 0 | n => n⟩
theorem Tryz.lays144 : Go.Proofs.Lays.n144 Tryz.prog Tryz.lays144_ren := {
 mixed := by kernel_rfl
 f143 := Tryz.func116.trans (congrArg some (by kernel_rfl))
 f144 := Tryz.func78.trans (congrArg some (by kernel_rfl))
 f217 := Tryz.func150.trans (congrArg some (by kernel_rfl))
 f219 := Tryz.func154.trans (congrArg some (by kernel_rfl))
 f224 := Tryz.func182.trans (congrArg some (by kernel_rfl))
 f225 := Tryz.func181.trans (congrArg some (by kernel_rfl))
 f266 := Tryz.func180.trans (congrArg some (by kernel_rfl))
 f267 := Tryz.func183.trans (congrArg some (by kernel_rfl))
 f314 := Tryz.func202.trans (congrArg some (by kernel_rfl))
 t3 := Tryz.underlying3
 a3 := Tryz.isAgg3
 z3 := Tryz.sizeOf3
 v3 := Tryz.zeroValue3
 t4 := Tryz.underlying4
 a4 := Tryz.isAgg4
 z4 := Tryz.sizeOf4
 v4 := Tryz.zeroValue4
 t5 := Tryz.underlying5
 a5 := Tryz.isAgg5
 z5 := Tryz.sizeOf5
 v5 := Tryz.zeroValue5
 t9 := Tryz.underlying9
 a9 := Tryz.isAgg9
 z9 := Tryz.sizeOf9
 v9 := Tryz.zeroValue9
 t46 := Tryz.underlying159
 a46 := Tryz.isAgg159
 z46 := Tryz.sizeOf159
 v46 := Tryz.zeroValue159
 t51 := Tryz.underlying179
 a51 := Tryz.isAgg179
 z51 := Tryz.sizeOf179
 v51 := Tryz.zeroValue179
 t146 := Tryz.underlying180
 a146 := Tryz.isAgg180
 z146 := Tryz.sizeOf180
 v146 := Tryz.zeroValue180
 g1 := by kernel_rfl }
open Go.RowKit Go.Lib in
theorem Tryz.strings_Contains_one (s : ByteArray) (c : UInt8) (w : World) :
  Calls Tryz.prog 78 #[.string s, .string ⟨#[c]⟩] w fun e w' => e = .returned (.bool (decide (0 ≤ Lib.indexByte s.data.toList c))) ∧ w' = w := Any.strings_Contains_one Tryz.lays144 s c w
def Tryz.lays105_ren : Go.Shelf.Ren := ⟨fun | 105 => 131 | 212 => 169 | 99 => 170 | 165 => 171 | 166 => 130 | 170 => 172 | 169 => 132 | 263 => 197 | 264 => 198 | 206 => 179 | 240 => 166 | 241 => 199 | 276 => 195 | 277 => 213 | n => n, fun | 9 => 9 | 3 => 3 | 4 => 4 | 20 => 20 | 0 => 0 | 46 => 159 | 109 => 160 | 5 => 5 | 72 => 127 | 76 => 135 | 51 => 179 | 146 => 180 | 53 => 182 | 148 => 183 | 70 => 125 | 37 => 101 | 75 => 129 | 127 => 163 | 164 => 176 | 80 => 138 | n => n, fun | n => n⟩
theorem Tryz.lays105 : Go.Proofs.Lays.n105 Tryz.prog Tryz.lays105_ren := {
 mixed := by kernel_rfl
 f99 := Tryz.func170.trans (congrArg some (by kernel_rfl))
 f105 := Tryz.func131.trans (congrArg some (by kernel_rfl))
 f165 := Tryz.func171.trans (congrArg some (by kernel_rfl))
 f166 := Tryz.func130.trans (congrArg some (by kernel_rfl))
 f169 := Tryz.func132.trans (congrArg some (by kernel_rfl))
 f170 := Tryz.func172.trans (congrArg some (by kernel_rfl))
 f206 := Tryz.func179.trans (congrArg some (by kernel_rfl))
 f212 := Tryz.func169.trans (congrArg some (by kernel_rfl))
 f240 := Tryz.func166.trans (congrArg some (by kernel_rfl))
 f241 := Tryz.func199.trans (congrArg some (by kernel_rfl))
 f263 := Tryz.func197.trans (congrArg some (by kernel_rfl))
 f264 := Tryz.func198.trans (congrArg some (by kernel_rfl))
 f276 := Tryz.func195.trans (congrArg some (by kernel_rfl))
 f277 := Tryz.func213.trans (congrArg some (by kernel_rfl))
 t0 := Tryz.underlying0
 a0 := Tryz.isAgg0
 z0 := Tryz.sizeOf0
 v0 := Tryz.zeroValue0
 t3 := Tryz.underlying3
 a3 := Tryz.isAgg3
 z3 := Tryz.sizeOf3
 v3 := Tryz.zeroValue3
 t4 := Tryz.underlying4
 a4 := Tryz.isAgg4
 z4 := Tryz.sizeOf4
 v4 := Tryz.zeroValue4
 t5 := Tryz.underlying5
 a5 := Tryz.isAgg5
 z5 := Tryz.sizeOf5
 v5 := Tryz.zeroValue5
 t9 := Tryz.underlying9
 a9 := Tryz.isAgg9
 z9 := Tryz.sizeOf9
 v9 := Tryz.zeroValue9
 t20 := Tryz.underlying20
 a20 := Tryz.isAgg20
 z20 := Tryz.sizeOf20
 v20 := Tryz.zeroValue20
 t37 := Tryz.underlying101
 a37 := Tryz.isAgg101
 z37 := Tryz.sizeOf101
 v37 := Tryz.zeroValue101
 t46 := Tryz.underlying159
 a46 := Tryz.isAgg159
 z46 := Tryz.sizeOf159
 v46 := Tryz.zeroValue159
 t51 := Tryz.underlying179
 a51 := Tryz.isAgg179
 z51 := Tryz.sizeOf179
 v51 := Tryz.zeroValue179
 t53 := Tryz.underlying182
 a53 := Tryz.isAgg182
 z53 := Tryz.sizeOf182
 v53 := Tryz.zeroValue182
 t70 := Tryz.underlying125
 a70 := Tryz.isAgg125
 z70 := Tryz.sizeOf125
 v70 := Tryz.zeroValue125
 t72 := Tryz.underlying127
 a72 := Tryz.isAgg127
 z72 := Tryz.sizeOf127
 v72 := Tryz.zeroValue127
 t75 := Tryz.underlying129
 a75 := Tryz.isAgg129
 z75 := Tryz.sizeOf129
 v75 := Tryz.zeroValue129
 t76 := Tryz.underlying135
 a76 := Tryz.isAgg135
 z76 := Tryz.sizeOf135
 v76 := Tryz.zeroValue135
 t109 := Tryz.underlying160
 a109 := Tryz.isAgg160
 z109 := Tryz.sizeOf160
 v109 := Tryz.zeroValue160
 t127 := Tryz.underlying163
 a127 := Tryz.isAgg163
 z127 := Tryz.sizeOf163
 v127 := Tryz.zeroValue163
 t146 := Tryz.underlying180
 a146 := Tryz.isAgg180
 z146 := Tryz.sizeOf180
 v146 := Tryz.zeroValue180
 t148 := Tryz.underlying183
 a148 := Tryz.isAgg183
 z148 := Tryz.sizeOf183
 v148 := Tryz.zeroValue183
 t164 := Tryz.underlying176
 a164 := Tryz.isAgg176
 z164 := Tryz.sizeOf176
 v164 := Tryz.zeroValue176 }
theorem Tryz.Builder_Extra_105 : Builder.Extra Tryz.prog Tryz.lays105_ren := {
 sizeBuilder := by kernel_rfl
 liesBuilder := by kernel_rfl
 t5 := Tryz.underlying5
 a5 := Tryz.isAgg5
 z5 := Tryz.sizeOf5
 v5 := Tryz.zeroValue5
 infoByte := by kernel_rfl
 cellsByte := by kernel_rfl
 sizeByte := by kernel_rfl
 neB5 := by decide }
open Go.RowKit Go.Lib in
theorem Tryz.strings_Repeat (s : ByteArray) (c : Nat) (w : World) (hc : c ≤ 9223372036854775807) (hlen : s.size * c ≤ 140737488355328) :
  Calls Tryz.prog 131 #[.string s, .int .i64 c] w fun e w' => e = .returned (.string ⟨(Lib.repeatL s.data.toList c).toArray⟩) ∧ Below w.heap.size w w' := Any.strings_Repeat Tryz.lays105 Tryz.Builder_Extra_105 s c w hc hlen
open Go.RowKit Go.Lib in
theorem Tryz.strings_Trim_laid (s cutset : ByteArray) (w : World) (hs : s.size ≤ 9223372036854775807) (hcs : cutset.size < 4294967281) (hascii : ∀ (j : Nat) (b : UInt8), cutset.data.toList[j]? = some b → b.toNat < 128) :
  Calls Tryz.prog 160 #[.string s, .string cutset] w fun e w' => e = .returned (.string ⟨(Lib.trimS s.data.toList cutset.data.toList).toArray⟩) ∧ Below w.heap.size w w' := Any.strings_Trim_laid Tryz.lays160 (by kernel_rfl) s cutset w hs hcs hascii
end Go.Proofs
namespace Go.Proofs.YthnfajboebaajaaGreatDoor
open Go.RowKit Go.Shelf
def LaidW (w : World) : Prop := Lib.TabIs Tryz.prog w "internal/strconv.uint64pow10" .u64 Lib.pow10Tab
theorem LaidW.below {w W : World} (h : LaidW w) (hb : Below w.heap.size w W) : LaidW W := (Lib.tabBelow_of_tabIs h).on hb |>.here
theorem strings_IndexByte.calls (a0 : ByteArray) (a1 : Int) (r : Int) (w : World) (h : strings_IndexByte.f a0 a1 = some r) :
  Calls Tryz.prog 112 #[.string a0, .int .u8 a1] w fun e w' => e = .returned (.int .i64 r) ∧ Below w.heap.size w w' := by
 obtain rfl := Option.some.inj h
 exact (Tryz.strings_IndexByte a0 a1 w).mono fun e w' h => ⟨h.1, by rw [h.2]; exact Below.refl _ _⟩
theorem strings_Contains.calls (a0 : ByteArray) (a1 : ByteArray) (r : Bool) (w : World) (h : strings_Contains.f a0 a1 = some r) :
  Calls Tryz.prog 78 #[.string a0, .string a1] w fun e w' => e = .returned (.bool r) ∧ Below w.heap.size w w' := by
 obtain ⟨⟨l⟩⟩ := a1
 unfold strings_Contains.f at h
 simp only at h
 split at h
 ·obtain rfl := Option.some.inj h
  rename_i c
  exact (Tryz.strings_Contains_one a0 c w).mono fun e w' h => ⟨h.1, by rw [h.2]; exact Below.refl _ _⟩
 cases h
theorem strings_CutPrefix.calls (a0 : ByteArray) (a1 : ByteArray) (r1 : ByteArray) (r2 : Bool) (w : World) (h : strings_CutPrefix.f a0 a1 = some (r1, r2)) :
  Calls Tryz.prog 159 #[.string a0, .string a1] w fun e w' => e = .returned (.tuple #[.string r1, .bool r2]) ∧ Below w.heap.size w w' := by
 have h2 := Option.some.inj h
 obtain ⟨rfl, rfl⟩ := Prod.mk.inj h2
 exact (Tryz.strings_CutPrefix a0 a1 w).mono fun e w' h => ⟨h.1, by rw [h.2]; exact Below.refl _ _⟩
theorem strings_Trim.calls (a0 : ByteArray) (a1 : ByteArray) (r : ByteArray) (w : World) (h : strings_Trim.f a0 a1 = some r) :
  Calls Tryz.prog 160 #[.string a0, .string a1] w fun e w' => e = .returned (.string r) ∧ Below w.heap.size w w' := by
 unfold strings_Trim.f at h
 split at h
 ·rename_i hc
  obtain rfl := Option.some.inj h
  refine Tryz.strings_Trim_laid a0 a1 w hc.1 hc.2.1 fun j b hj => ?_
  have := List.all_eq_true.1 hc.2.2 b (List.mem_of_getElem? hj)
  simpa using this
 cases h
theorem decDigits_txtN : ∀ n : Nat, Lib.decDigits n = Sv.txtN n := by
 intro n
 induction n using Nat.strongRecOn with
 | ind n ih =>
  rw [Lib.decDigits]
  by_cases h : n < 10
  ·rw [dif_pos h]
   unfold Sv.txtN
   by_cases h0 : n = 0
   ·subst h0; rfl
   rw [if_neg h0, Sv.dg_pos (by decide) (by omega), Nat.mod_eq_of_lt h, Nat.div_eq_of_lt h, Sv.dg_zero]
   simp [Sv.dch]
  rw [dif_neg h, ih (n / 10) (by omega)]
  have h0 : n ≠ 0 := by omega
  have h1 : n / 10 ≠ 0 := by omega
  unfold Sv.txtN
  rw [if_neg h0, if_neg h1, Sv.dg_pos (b := 10) (n := n) (by decide) (by omega)]
  simp [Sv.dch]
  congr 1
theorem itoa_txtL (n : Int) : Lib.itoa n = Sv.txtL n := by
 unfold Lib.itoa Sv.txtL
 split
 ·rw [decDigits_txtN]
 rename_i h
 rw [decDigits_txtN]
 congr 1
 omega
theorem strconv_Itoa.calls (a0 : Int) (r : ByteArray) (w : World) (hL : LaidW w) (h : strconv_Itoa.f a0 = some r) :
  Calls Tryz.prog 129 #[.int .i64 a0] w fun e w' => e = .returned (.string r) ∧ Below w.heap.size w w' := by
 unfold strconv_Itoa.f at h
 split at h
 ·rename_i hc
  obtain rfl := Option.some.inj h
  refine (Tryz.strconv_Itoa a0 hc.1 hc.2 w hL).mono fun e w' h => ⟨?_, ?_⟩
  ·rw [h.1, itoa_txtL]; rfl
  obtain ⟨k, os, rfl⟩ := h.2
  exact Lib.below_grow _ _ (Nat.le_refl _) _ _
 cases h
end Go.Proofs.YthnfajboebaajaaGreatDoor
namespace Go.Proofs.YthnfajboebaajaaGreatDoor.PA
open Go.RowKit Go.Proofs.YthnfajboebaajaaGreatDoorW.PrintWords Go.Proofs.YthnfajboebaajaaGreatDoorW.PrintLast Go.Proofs.YthnfajboebaajaaGreatDoorW.PrintMore
attribute [local go_sem] max2_int min2_int max_two min_two max_three min_three max_four min_four
set_option linter.unusedVariables false
set_option linter.unusedSimpArgs false
theorem bIcanonical.calls (a0 : ByteArray) (r : Bool) (w : World) (h : bIcanonical.f a0 = some r) :
  Calls Tryz.prog 120 #[.string a0] w fun e w' => e = .returned (.bool r) ∧ Below w.heap.size w w' := by
 have HB := Aside0.mk (Below.refl w.heap.size w)
 have H := h
 clear h
 unfold bIcanonical.f at H
 obtain ⟨⟨t102, t103⟩, A2, H⟩ := bnd H
 try dsimp only at H
 rcases je H with ⟨-, c3b0, c3b1, H⟩ | ⟨c3, c3b0, c3b1, H⟩
 ·obtain rfl := Option.some.inj H
  go_enter Tryz.func120, Tryz.ntmps120
  go_wp2_with (first | ((with_reducible refine gc_ 159 rfl ?_); refine goB (some 7) Tryz.func159 #[.string a0, .string (⟨#[45]⟩ : ByteArray)] bq (strings_CutPrefix.calls a0 (⟨#[45]⟩ : ByteArray) t102 t103 _ A2.out) ?_; clear HB; intro w4 HB))
  go_ret
  exact finE
 rcases je H with ⟨-, c5b0, c5b1, H⟩ | ⟨c5, c5b0, c5b1, H⟩
 ·obtain rfl := Option.some.inj H
  go_enter Tryz.func120, Tryz.ntmps120
  go_wp2_with (first | ((with_reducible refine gc_ 159 rfl ?_); refine goB (some 7) Tryz.func159 #[.string a0, .string (⟨#[45]⟩ : ByteArray)] bq (strings_CutPrefix.calls a0 (⟨#[45]⟩ : ByteArray) t102 t103 _ A2.out) ?_; clear HB; intro w6 HB))
  go_ret
  exact finE
 obtain ⟨c7, c7b0, H⟩ := gd H
 have c7b1 : decide (0 < t102.size) = true := decide_eq_true (by omega)
 clear c7
 rcases je H with ⟨-, c9b0, c9b1, H⟩ | ⟨c9, c9b0, c9b1, H⟩
 ·obtain rfl := Option.some.inj H
  go_enter Tryz.func120, Tryz.ntmps120
  go_wp2_with (first | ((with_reducible refine gc_ 159 rfl ?_); refine gL 7 Tryz.func159 (strings_CutPrefix.calls _ _ _ _ _ A2.out) ?_; rintro _ w10 ⟨rfl, hb⟩; refine ⟨_, rfl, ?_⟩; replace HB := fB HB hb; clear hb; have p8 : 0 ≤ (0 : Int) := (by omega); have q8 : 0 < t102.size := (by have : (0 : Int) < (t102.size : Int) := od; omega); have hx8 : ∀ h : 0 < t102.size, ((t102[0]'h).toNat : Int) = bt t102 0 := bt_at t102 0; clear p8; have qi8 : (0 < (t102.size : Int)) = True := eq_true od; replace q8 := eq_true q8))
  go_ret
  exact finE
 obtain ⟨t104, A11, H⟩ := bnd H
 obtain rfl := Option.some.inj H
 go_enter Tryz.func120, Tryz.ntmps120
 go_wp2_with (first | ((with_reducible refine gc_ 159 rfl ?_); refine gL 7 Tryz.func159 (strings_CutPrefix.calls _ _ _ _ _ A2.out) ?_; rintro _ w12 ⟨rfl, hb⟩; refine ⟨_, rfl, ?_⟩; replace HB := fB HB hb; clear hb; have p8 : 0 ≤ (0 : Int) := (by omega); have q8 : 0 < t102.size := (by have : (0 : Int) < (t102.size : Int) := od; omega); have hx8 : ∀ h : 0 < t102.size, ((t102[0]'h).toNat : Int) = bt t102 0 := bt_at t102 0; clear p8; have qi8 : (0 < (t102.size : Int)) = True := eq_true od; replace q8 := eq_true q8) | (go_at_call 160; (with_reducible refine (strings_Trim.calls t102 (⟨#[48, 49, 50, 51, 52, 53, 54, 55, 56, 57]⟩ : ByteArray) t104 _ A11.out).mono ?_); rintro e w13 ⟨rfl, hb⟩; replace HB := fB HB hb; clear hb))
 go_ret
 exact finE
theorem stringslite_HasPrefix.calls (a0 : ByteArray) (a1 : ByteArray) (r : Bool) (w : World) (h : stringslite_HasPrefix.f a0 a1 = some r) :
  Calls Tryz.prog 179 #[.string a0, .string a1] w fun e w' => e = .returned (.bool r) ∧ Drawn0 w w' := by
 have H := h
 clear h
 unfold stringslite_HasPrefix.f at H
 rcases jh H with ⟨c3, c3b0, H⟩ | ⟨c3, c3b0, H⟩
 ·have c3b1 : decide (a1.size ≤ a0.size) = true := decide_eq_true (Int.ofNat_le.mp c3)
  clear c3
  obtain ⟨-, c4b0, c4b1, H⟩ := gt H
  obtain ⟨-, c5b0, c5b1, H⟩ := gt H
  obtain rfl := Option.some.inj H
  go_enter Tryz.func179, Tryz.ntmps179
  go_wp2
  go_ret
  exact finD
 have c3b1 : decide (a1.size ≤ a0.size) = false := decide_eq_false (fun h => c3 (Int.ofNat_le.mpr h))
 clear c3
 obtain rfl := Option.some.inj H
 go_enter Tryz.func179, Tryz.ntmps179
 go_wp2
 go_ret
 exact finD
theorem stringslite_TrimPrefix.calls (a0 : ByteArray) (a1 : ByteArray) (r : ByteArray) (w : World) (h : stringslite_TrimPrefix.f a0 a1 = some r) :
  Calls Tryz.prog 149 #[.string a0, .string a1] w fun e w' => e = .returned (.string r) ∧ Drawn0 w w' := by
 have H := h
 clear h
 unfold stringslite_TrimPrefix.f at H
 obtain ⟨t105, A3, H⟩ := bnd H
 by_cases c4 : t105 = true
 ·subst c4
  have H1 : (if 0 ≤ (a1.size : Int) then (if (a1.size : Int) ≤ (a0.size : Int) then (some (a0.extract ((a1.size : Int) : Int).toNat a0.size)) else (none)) else (none)) = some r := by rw [if_pos rfl] at H; exact H
  clear H
  have H := H1
  clear H1
  obtain ⟨-, c5b0, c5b1, H⟩ := gt H
  obtain ⟨-, c6b0, c6b1, H⟩ := gt H
  obtain rfl := Option.some.inj H
  go_enter Tryz.func149, Tryz.ntmps149
  go_wp2_with (first | ((with_reducible refine gc_ 179 rfl ?_); refine goD (some 7) Tryz.func179 #[.string a0, .string a1] (stringslite_HasPrefix.calls a0 a1 true _ A3.out) ?_; intro nd))
  go_ret
  exact finD
 replace c4 := Bool.eq_false_iff.mpr c4
 subst c4
 have H1 : (some a0) = some r := by rw [if_neg (show ¬ (false = true) by decide)] at H; exact H
 clear H
 have H := H1
 clear H1
 obtain rfl := Option.some.inj H
 go_enter Tryz.func149, Tryz.ntmps149
 go_wp2_with (first | ((with_reducible refine gc_ 179 rfl ?_); refine goD (some 7) Tryz.func179 #[.string a0, .string a1] (stringslite_HasPrefix.calls a0 a1 false _ A3.out) ?_; intro nd))
 go_ret
 exact finD
theorem strings_TrimPrefix.calls (a0 : ByteArray) (a1 : ByteArray) (r : ByteArray) (w : World) (h : strings_TrimPrefix.f a0 a1 = some r) :
  Calls Tryz.prog 110 #[.string a0, .string a1] w fun e w' => e = .returned (.string r) ∧ Drawn0 w w' := by
 have H := h
 clear h
 unfold strings_TrimPrefix.f at H
 obtain ⟨t106, A3, H⟩ := bnd H
 obtain rfl := Option.some.inj H
 go_enter Tryz.func110, Tryz.ntmps110
 go_wp2_with (first | ((with_reducible refine gc_ 149 rfl ?_); refine goD (some 7) Tryz.func149 #[.string a0, .string a1] (stringslite_TrimPrefix.calls a0 a1 t106 _ A3.out) ?_; intro nd))
 go_ret
 exact finD
theorem bIdigits.calls (a0 : ByteArray) (r : Int) (w : World) (h : bIdigits.f a0 = some r) :
  Calls Tryz.prog 121 #[.string a0] w fun e w' => e = .returned (.int .i64 r) ∧ Drawn0 w w' := by
 have H := h
 clear h
 unfold bIdigits.f at H
 obtain ⟨t107, A2, H⟩ := bnd H
 obtain rfl := Option.some.inj H
 go_enter Tryz.func121, Tryz.ntmps121
 go_wp2_with (first | ((with_reducible refine gc_ 110 rfl ?_); refine goD (some 4) Tryz.func110 #[.string a0, .string (⟨#[45]⟩ : ByteArray)] (strings_TrimPrefix.calls a0 (⟨#[45]⟩ : ByteArray) t107 _ A2.out) ?_; intro nd))
 go_ret
 exact finD
theorem bICheck.calls (a0 : ByteArray) (r : Int) (w : World) (h : bICheck.f a0 = some r) :
  Calls Tryz.prog 83 #[.string a0] w fun e w' => e = .returned (.int .i64 r) ∧ Below w.heap.size w w' := by
 have HB := Aside0.mk (Below.refl w.heap.size w)
 have H := h
 clear h
 unfold bICheck.f at H
 obtain ⟨t108, A2, H⟩ := bnd H
 by_cases c3 : t108 = true
 ·subst c3
  have H1 : ((bIdigits.f a0).bind fun t109 => (if t109 > 4096 then (some 10) else (some 0))) = some r := by rw [if_pos rfl] at H; exact H
  clear H
  have H := H1
  clear H1
  obtain ⟨t109, A4, H⟩ := bnd H
  rcases jg H with ⟨-, c5b0, H⟩ | ⟨-, c5b0, H⟩
  ·obtain rfl := Option.some.inj H
   go_enter Tryz.func83, Tryz.ntmps83
   go_wp2_with (first | ((with_reducible refine gc_ 120 rfl ?_); refine goB (some 5) Tryz.func120 #[.string a0] bq (bIcanonical.calls a0 true _ A2.out) ?_; clear HB; intro w6 HB) | ((with_reducible refine gc_ 121 rfl ?_); refine goD (some 9) Tryz.func121 #[.string a0] (bIdigits.calls a0 t109 _ A4.out) ?_; intro nd))
   go_ret
   exact finE
  obtain rfl := Option.some.inj H
  go_enter Tryz.func83, Tryz.ntmps83
  go_wp2_with (first | ((with_reducible refine gc_ 120 rfl ?_); refine goB (some 5) Tryz.func120 #[.string a0] bq (bIcanonical.calls a0 true _ A2.out) ?_; clear HB; intro w7 HB) | ((with_reducible refine gc_ 121 rfl ?_); refine goD (some 9) Tryz.func121 #[.string a0] (bIdigits.calls a0 t109 _ A4.out) ?_; intro nd))
  go_ret
  exact finE
 replace c3 := Bool.eq_false_iff.mpr c3
 subst c3
 have H1 : (some 3) = some r := by rw [if_neg (show ¬ (false = true) by decide)] at H; exact H
 clear H
 have H := H1
 clear H1
 obtain rfl := Option.some.inj H
 go_enter Tryz.func83, Tryz.ntmps83
 go_wp2_with (first | ((with_reducible refine gc_ 120 rfl ?_); refine goB (some 5) Tryz.func120 #[.string a0] bq (bIcanonical.calls a0 false _ A2.out) ?_; clear HB; intro w8 HB))
 go_ret
 exact finE
theorem bItrim.calls (k : Nat) (P0_ : Nat → Prop) (u9000_ : Value) (l0 : List Int) (r : List Int) (w0 w : World) (hB : Below w0.heap.size w0 w) (ho0 : Kd.R (Kd.int .i64) 3 w w0.heap.size P0_ u9000_ l0) (h : bItrim.f k l0 = some r) :
  Calls Tryz.prog 147 #[u9000_] w fun e w' => ∃ v0_ : Value, e = .returned (v0_) ∧ Kd.R (Kd.int .i64) 3 w' w0.heap.size (fun k_ => (P0_ k_ ∨ w.heap.size ≤ k_)) v0_ r ∧ Below w0.heap.size w0 w' ∧ Kept w w' (fun k_ => P0_ k_) := by
 have HO0 := Aside0.mk (show Kd.R (Kd.int .i64) 3 w w0.heap.size (fun k_ => (P0_ k_ ∨ w.heap.size ≤ k_)) u9000_ l0 from Kd.R_mono ho0 (fun k_ hk => (.inl hk)))
 have HK := Aside0.mk (Kept.refl w (fun k_ => P0_ k_))
 have HW0 := Aside0.mk hB.size
 have HB := Aside0.mk hB
 clear hB
 have H := h
 clear h
 unfold bItrim.f at H
 have H' := Aside0.mk H
 clear H
 go_enter Tryz.func147, Tryz.ntmps147
 go_wp2
 go_loopg [0] k (fun kq v0 w' => ∃ (x0_1 : List Int), Aside0 (bItrim.l0 kq x0_1 = some r) ∧ Aside0 (kq ≤ k) ∧ Aside0 (Kd.R (Kd.int .i64) 3 w' w0.heap.size (fun k_ => (P0_ k_ ∨ w.heap.size ≤ k_)) v0 x0_1) ∧ Aside0 (Kept w w' (fun k_ => P0_ k_)) ∧ Aside0 (Below w0.heap.size w0 w'))
 case atStart => exact ⟨(l0), H', ⟨Nat.le_refl _⟩, ⟨rq HO0⟩, ⟨kqs⟩, ⟨bqs⟩⟩
 case round =>
  clear H'
  try clear c1
  obtain ⟨x0_1, HA, HK1, HO_0, HK, HB⟩ := hrel
  cases gk with
  | zero => exact absurd HA.out (by simp [bItrim.l0])
  | succ k1 =>
   have H := HA.out
   clear HA
   simp only [bItrim.l0] at H
   rcases jg H with ⟨c2, c2b0, H⟩ | ⟨c2, c2b0, H⟩
   ·have c2b1 : decide (0 < x0_1.length) = true := decide_eq_true (by omega)
    clear c2
    obtain ⟨ji3, hji3⟩ : ∃ j_ : Int, (wrap64 ((x0_1.length : Int) - 1)) = j_ := ⟨_, rfl⟩
    replace H : (if 0 ≤ (ji3) then (if (ji3) < (x0_1.length : Int) then (if (rd x0_1 (ji3)) = 0 then (if (ji3) ≤ (x0_1.length : Int) then (bItrim.l0 k1 (x0_1.take ((ji3) : Int).toNat)) else (none)) else (some x0_1)) else (none)) else (none)) = some r := by first | (rw [hji3] at H; exact H) | (simp only [hji3] at H ⊢; exact H)
    have hji3w : (IntKind.i64.wrap ((x0_1.length : Int) - 1)) = ji3 := (i64_w _).trans hji3
    obtain ⟨-, c4b0, H⟩ := gd H
    obtain ⟨-, c5b0, H⟩ := gd H
    rcases je H with ⟨-, c6b0, c6b1, H⟩ | ⟨c6, c6b0, c6b1, H⟩
    ·obtain ⟨-, c7b0, c7b1, H⟩ := gt H
     generalize hy112 : (x0_1.take ((ji3) : Int).toNat : List Int) = y112 at H
     have Ny112 := Aside0.mk hy112.symm
     clear hy112
     have H' := Aside0.mk H
     clear H
     obtain ⟨Ao8, co8, eo8⟩ := Kd.R_slice HO_0.out
     subst eo8
     obtain ⟨ad111, e111, hx111_0, p111, q111⟩ := atI (Kd.R_reads' HO_0.out).2.2 (ji3)
     cases e111
     have q9 : ((ji3) : Int) ≤ ((x0_1.length : Int) : Int) := od
     obtain ⟨i09, hi09, _, hsz9, _⟩ := info_parts info3
     have hcut9 := cut_to (P := Tryz.prog) 86 3 .i64 Tryz.underlying86 hi09 (some ad111) x0_1.length co8 (ji3) od q9 (Kd.R_reads' HO_0.out).2.1
     have hr9 := Kd.R_take (m := ((ji3) : Int).toNat) HO_0.out (by omega)
     have hy9 : y112.length = ((ji3) : Int).toNat := (by rw [Ny112.out, List.length_take]; omega)
     rw [← Ny112.out] at hr9
     rw [← hy9] at hr9 hcut9
     clear hy9 hi09 hsz9 HO_0
     have HO114 := Aside0.mk hr9
     clear hr9
     replace q9 := eq_true q9
     go_wp2
     go_roundg k1
     case measure => have := HK1.out; omega
     case rel => exact ⟨(y112), H', ⟨by have := HK1.out; omega⟩, ⟨rq HO114⟩, ⟨kqs⟩, ⟨bqs⟩⟩
    obtain rfl := Option.some.inj H
    obtain ⟨Ao10, co10, eo10⟩ := Kd.R_slice HO_0.out
    subst eo10
    obtain ⟨ad111, e111, hx111_0, p111, q111⟩ := atI (Kd.R_reads' HO_0.out).2.2 (ji3)
    cases e111
    go_wp2
    go_ret
    exact ⟨_, by first | rfl | (simp [errW_none, errW_some] <;> rfl) | (simp only [← hji3]; first | rfl | (simp [errW_none, errW_some] <;> rfl)) | (simp [*, errW_none, errW_some] <;> rfl), rq HO_0, bqs, kqs⟩
   have c2b1 : decide (0 < x0_1.length) = false := decide_eq_false (by omega)
   clear c2
   obtain rfl := Option.some.inj H
   obtain ⟨Ao11, co11, eo11⟩ := Kd.R_slice HO_0.out
   subst eo11
   go_wp2
   go_ret
   exact ⟨_, fe, rq HO_0, bqs, kqs⟩
theorem bItimes.calls (k : Nat) (A0 : Option Addr) (c0 : Nat) (l0 : List Int) (A1 : Option Addr) (c1 : Nat) (l1 : List Int) (r : List Int) (w : World) (hr0 : Kd.C (Kd.int .i64) w A0 l0.length l0) (hc0 : l0.length ≤ c0) (hr1 : Kd.C (Kd.int .i64) w A1 l1.length l1) (hc1 : l1.length ≤ c1) (h : bItimes.f k l0 l1 = some r) :
  Calls Tryz.prog 109 #[.slice A0 l0.length c0, .slice A1 l1.length c1] w fun e w' => ∃ v0_ : Value, e = .returned (v0_) ∧ Kd.R (Kd.int .i64) 3 w' w.heap.size (fun _ => True) v0_ r ∧ Below w.heap.size w w' := by
 have HR0 := Aside0.mk hr0
 have HC0 := Aside0.mk hc0
 clear hr0 hc0
 have HR1 := Aside0.mk hr1
 have HC1 := Aside0.mk hc1
 clear hr1 hc1
 have HB := Aside0.mk (Below.refl w.heap.size w)
 have H := h
 clear h
 unfold bItimes.f at H
 obtain ⟨ji3, hji3⟩ : ∃ j_ : Int, (wrap64 ((l0.length : Int) + (l1.length : Int))) = j_ := ⟨_, rfl⟩
 replace H : (if 0 ≤ (ji3) then (if (ji3 : Int).toNat ≤ 35184372088832 then (bItimes.l0 k l1 (List.replicate (ji3 : Int).toNat 0) l0 (l0.length : Int) 0) else (none)) else (none)) = some r := by first | (rw [hji3] at H; exact H) | (simp only [hji3] at H ⊢; exact H)
 have hji3w : (IntKind.i64.wrap ((l0.length : Int) + (l1.length : Int))) = ji3 := (i64_w _).trans hji3
 obtain ⟨-, c4b0, c4b1, H⟩ := gt H
 obtain ⟨-, c5b0, c5b1, H⟩ := gt H
 generalize hy115 : (List.replicate (ji3 : Int).toNat 0 : List Int) = y115 at H
 have Ny115 := Aside0.mk hy115.symm
 clear hy115
 have H' := Aside0.mk H
 clear H
 go_enter Tryz.func109, Tryz.ntmps109
 go_wp2_with (first | ((with_reducible refine gd_ 16 rfl ?_); refine Kd.R_make (Kd.int .i64) _ 3 rfl (N := 16) rfl 86 _ _ rfl ji3 rfl rfl Tryz.underlying86 (.int .i64 0) 8 info3 rfl (by decide) (by omega) 0 (ok := fun _ => True) (okp := fun _ => True) rfl (fun _ hk => hk) trivial od (Nat.le_trans (Nat.mul_le_mul_right _ (od : ji3.toNat ≤ 35184372088832)) (by omega)) (Below.refl _ _) (Nat.le_refl _) ?_; intro v116 w6 ho7 hb hg_ hnew_; clear hg_ hnew_; (first | rw [← Ny115.out] at ho7 | (simp only [Int.reduceToNat] at ho7; rw [← Ny115.out] at ho7)); have HO117 := Aside0.mk (Kd.R_lower ho7 (below_size bqs)); replace HB := fB HB hb; clear hb ho7))
 go_loopg [19] k (fun kq v19 w' => ∃ (x5_1 : List Int) (x19_1 : Int), v19 = .int .i64 x19_1 ∧ Aside0 (bItimes.l0 kq l1 x5_1 l0 (l0.length : Int) x19_1 = some r) ∧ Aside0 (kq ≤ k) ∧ Aside0 (Kd.R (Kd.int .i64) 3 w' w.heap.size (fun _ => True) v116 x5_1) ∧ Aside0 (Below w.heap.size w w'))
 case atStart => exact ⟨(y115), (0), fs, H', ⟨Nat.le_refl _⟩, ⟨rq HO117⟩, ⟨bqs⟩⟩
 case round =>
  clear H'
  try clear c1
  try clear p2
  try clear c4
  try clear c4b0
  try clear c4b1
  try clear c5
  try clear c5b0
  try clear c5b1
  try clear p6
  obtain ⟨x5_1, x19_1, rfl, HA, HK1, HO_5, HB⟩ := hrel
  cases gk with
  | zero => exact absurd HA.out (by simp [bItimes.l0])
  | succ k1 =>
   have H := HA.out
   clear HA
   simp only [bItimes.l0] at H
   rcases jd H with ⟨-, c8b0, H⟩ | ⟨-, c8b0, H⟩
   ·obtain ⟨-, c9b0, H⟩ := gd H
    obtain ⟨-, c10b0, H⟩ := gd H
    have H' := Aside0.mk H
    clear H
    obtain ⟨ad121, e121, hx121_0, p121, q121⟩ := atB HB HR0.out x19_1
    cases e121
    go_wp2
    go_loopg [8, 26] k1 (fun kq v8 v26 w' => ∃ (x5_2 : List Int) (x8_2 : Int) (x26_2 : Int), v8 = .int .i64 x8_2 ∧ v26 = .int .i64 x26_2 ∧ Aside0 (bItimes.l1 kq l1 x5_2 x19_1 (rd l0 x19_1) x8_2 l0 (l0.length : Int) x19_1 l1 (l1.length : Int) x26_2 = some r) ∧ Aside0 (kq ≤ k1) ∧ Aside0 (Kd.R (Kd.int .i64) 3 w' w.heap.size (fun _ => True) v116 x5_2) ∧ Aside0 (Below w.heap.size w w'))
    case atStart => exact ⟨(x5_1), (0), (0), fs, fs, H', ⟨Nat.le_refl _⟩, ⟨rq HO_5⟩, ⟨bqs⟩⟩
    case round =>
     clear H'
     try clear c1
     try clear p1
     try clear q1
     try clear hx1
     try clear p2
     try clear c4
     try clear c4b0
     try clear c4b1
     try clear c5
     try clear c5b0
     try clear c5b1
     try clear p6
     try clear c8
     try clear c8b0
     try clear c9
     try clear c9b0
     try clear c10
     try clear c10b0
     try clear hx121_0
     try clear p121
     try clear p2
     try clear p6
     try clear q121
     obtain ⟨x5_2, x8_2, x26_2, rfl, rfl, HA, HK2, HO_5, HB⟩ := hrel
     cases gk with
     | zero => exact absurd HA.out (by simp [bItimes.l1])
     | succ k2 =>
      have H := HA.out
      clear HA
      simp only [bItimes.l1] at H
      rcases jd H with ⟨-, c11b0, H⟩ | ⟨-, c11b0, H⟩
      ·obtain ⟨-, c12b0, H⟩ := gd H
       obtain ⟨-, c13b0, H⟩ := gd H
       obtain ⟨ji14, hji14⟩ : ∃ j_ : Int, (wrap64 (x19_1 + x26_2)) = j_ := ⟨_, rfl⟩
       replace H : (if 0 ≤ (ji14) then (if (ji14) < (x5_2.length : Int) then (bItimes.l1 k2 l1 (x5_2.set ((ji14) : Int).toNat (Int.tmod (wrap64 (x8_2 + (wrap64 ((rd x5_2 (ji14)) + (wrap64 ((rd l0 x19_1) * (rd l1 x26_2))))))) 1000000000)) x19_1 (rd l0 x19_1) (wrap64 (Int.tdiv (wrap64 (x8_2 + (wrap64 ((rd x5_2 (ji14)) + (wrap64 ((rd l0 x19_1) * (rd l1 x26_2))))))) 1000000000)) l0 (l0.length : Int) x19_1 l1 (l1.length : Int) (wrap64 (x26_2 + 1))) else (none)) else (none)) = some r := by first | (rw [hji14] at H; exact H) | (simp only [hji14] at H ⊢; exact H)
       have hji14w : (IntKind.i64.wrap (x19_1 + x26_2)) = ji14 := (i64_w _).trans hji14
       obtain ⟨-, c15b0, H⟩ := gd H
       obtain ⟨-, c16b0, H⟩ := gd H
       generalize hy124 : (x5_2.set ((ji14) : Int).toNat (Int.tmod (wrap64 (x8_2 + (wrap64 ((rd x5_2 (ji14)) + (wrap64 ((rd l0 x19_1) * (rd l1 x26_2))))))) 1000000000) : List Int) = y124 at H
       have Ny124 := Aside0.mk hy124.symm
       clear hy124
       have H' := Aside0.mk H
       clear H
       obtain ⟨ad122, e122, hx122_0, p122, q122⟩ := atB HB HR1.out x26_2
       cases e122
       obtain ⟨Ao18, co18, eo18⟩ := Kd.R_slice HO_5.out
       subst eo18
       obtain ⟨ad123, e123, hx123_0, p123, q123⟩ := atI (Kd.R_reads' HO_5.out).2.2 (ji14)
       cases e123
       have p17 : 0 ≤ ((ji14) : Int) := od
       have q17 : ((ji14) : Int) < ((x5_2.length : Int) : Int) := od
       obtain ⟨go17, co17, eo17, gb17, gl17, cl17, HG17⟩ := Kd.R_form HO_5.out (by omega)
       (first | cases eo17 | (injection eo17 with ea_ en_ ec_; (first | subst ea_ | (injection ea_ with ea_; subst ea_)); subst ec_; clear en_))
       have GB17 := Aside0.mk gb17
       have GG17 := Aside0.mk HG17
       clear gb17 gl17 HG17
       (first | simp only [add_plain] at hx123_0 | skip)
       obtain ⟨hx17_0, hf17_0⟩ := Kd.R_celln 0 HO_5.out ((ji14) : Int) p17 q17
       replace p17 := eq_true p17
       replace q17 := eq_true q17
       have HP19 := Kd.R_putg HO_5.out ((ji14) : Int) (Int.tmod (wrap64 (x8_2 + (wrap64 ((rd x5_2 (ji14)) + (wrap64 ((rd l0 x19_1) * (rd l1 x26_2))))))) 1000000000)
       go_wp2_with (first | ((with_reducible refine gate_store (t := 3) (p := 51) rfl ?_); refine store_event (t := 3) (p := 51) (v := ?vo_w20) (w1 := (wr.setCell ⟨go17, ((ji14) : Int).toNat, none⟩ (.int .i64 (Int.tmod (wrap64 (x8_2 + (wrap64 ((rd x5_2 (ji14)) + (wrap64 ((rd l0 x19_1) * (rd l1 x26_2))))))) 1000000000)))) ?hg ?ho ?hn ?hr ?_; (case ho => rfl); (case hg => rfl); (case hn => rfl); (case hr => first | (go_simp; done) | (go_simp; rfl)); intro w20 hw; have hg : wr.grownBy w20 (some go17) := (by rw [hw]; exact HP19.2); have hp_ : Kd.R (Kd.int .i64) 3 w20 w.heap.size (fun _ => True) (.slice (some ⟨go17, 0, none⟩) x5_2.length co18) y124 := (by rw [hw, Ny124.out]; exact HP19.1); clear HP19; replace HO_5 := Aside0.mk (hp_); replace HB := Aside0.mk ((by rw [hw]; exact below_set (HB.out) GB17.out : Below w.heap.size w w20)); clear hg hw hp_))
       go_roundg k2
       case measure => have := HK1.out; have := HK2.out; omega
       case rel => exact ⟨(y124), (wrap64 (Int.tdiv (wrap64 (x8_2 + (wrap64 ((rd x5_2 (ji14)) + (wrap64 ((rd l0 x19_1) * (rd l1 x26_2))))))) 1000000000)), (wrap64 (x26_2 + 1)), (by first | rfl | (simp; done) | (simp only [← hji14] <;> (first | rfl | simp)) | (simp [*]; done)), fs, H', ⟨by have := HK1.out; have := HK2.out; omega⟩, ⟨rq HO_5⟩, ⟨bqs⟩⟩
      obtain ⟨ji21, hji21⟩ : ∃ j_ : Int, (wrap64 (x19_1 + (l1.length : Int))) = j_ := ⟨_, rfl⟩
      replace H : (if 0 ≤ (ji21) then (if (ji21) < (x5_2.length : Int) then (bItimes.l0 k2 l1 (x5_2.set ((ji21) : Int).toNat x8_2) l0 (l0.length : Int) (wrap64 (x19_1 + 1))) else (none)) else (none)) = some r := by first | (rw [hji21] at H; exact H) | (simp only [hji21] at H ⊢; exact H)
      have hji21w : (IntKind.i64.wrap (x19_1 + (l1.length : Int))) = ji21 := (i64_w _).trans hji21
      obtain ⟨-, c22b0, H⟩ := gd H
      obtain ⟨-, c23b0, H⟩ := gd H
      generalize hy125 : (x5_2.set ((ji21) : Int).toNat x8_2 : List Int) = y125 at H
      have Ny125 := Aside0.mk hy125.symm
      clear hy125
      have H' := Aside0.mk H
      clear H
      have p24 : 0 ≤ ((ji21) : Int) := od
      have q24 : ((ji21) : Int) < ((x5_2.length : Int) : Int) := od
      obtain ⟨go24, co24, eo24, gb24, gl24, cl24, HG24⟩ := Kd.R_form HO_5.out (by omega)
      (first | cases eo24 | (injection eo24 with ea_ en_ ec_; (first | subst ea_ | (injection ea_ with ea_; subst ea_)); subst ec_; clear en_))
      have GB24 := Aside0.mk gb24
      have GG24 := Aside0.mk HG24
      clear gb24 gl24 HG24
      obtain ⟨hx24_0, hf24_0⟩ := Kd.R_celln 0 HO_5.out ((ji21) : Int) p24 q24
      replace p24 := eq_true p24
      replace q24 := eq_true q24
      have HP25 := Kd.R_putg HO_5.out ((ji21) : Int) x8_2
      go_wp2_with (first | ((with_reducible refine gate_store (t := 3) (p := 59) rfl ?_); refine store_event (t := 3) (p := 59) (v := ?vo_w26) (w1 := (wr.setCell ⟨go24, ((ji21) : Int).toNat, none⟩ (.int .i64 x8_2))) ?hg ?ho ?hn ?hr ?_; (case ho => rfl); (case hg => rfl); (case hn => rfl); (case hr => first | (go_simp; done) | (go_simp; rfl)); intro w26 hw; have hg : wr.grownBy w26 (some go24) := (by rw [hw]; exact HP25.2); have hp_ : Kd.R (Kd.int .i64) 3 w26 w.heap.size (fun _ => True) (.slice (some ⟨go24, 0, none⟩) x5_2.length co24) y125 := (by rw [hw, Ny125.out]; exact HP25.1); clear HP25; replace HO_5 := Aside0.mk (hp_); replace HB := Aside0.mk ((by rw [hw]; exact below_set (HB.out) GB24.out : Below w.heap.size w w26)); clear hg hw hp_))
      go_roundg k2
      case measure => have := HK1.out; have := HK2.out; omega
      case rel => exact ⟨(y125), (wrap64 (x19_1 + 1)), fs, H', ⟨by have := HK1.out; have := HK2.out; omega⟩, ⟨rq HO_5⟩, ⟨bqs⟩⟩
   obtain ⟨t118, A27, H⟩ := bnd H
   obtain rfl := Option.some.inj H
   obtain ⟨Ao28, co28, eo28⟩ := Kd.R_slice HO_5.out
   subst eo28
   go_wp2_with (first | ((with_reducible refine gc_ 147 rfl ?_); refine gL 62 Tryz.func147 (bItrim.calls k1 (fun k_ => some k_ = (.slice Ao28 x5_1.length co28 : Value).ownBlock) (.slice Ao28 x5_1.length co28) x5_1 t118 w _ ?side1 ?side2 A27.out) ?_; (case side1 => repeat (first | (with_reducible first | exact HB.out | apply below_alloc | apply pw_below_drewN | apply below_drew1) | exact HB.out)); (case side2 => exact Kd.R_tight rfl HO_5.out); rintro _ w29 ⟨v119, rfl, ho0, hb, hkp⟩; refine ⟨_, rfl, ?_⟩; have HO120 := Aside0.mk (Kd.R_mono (ok' := fun k_ => True) ho0 (fun k_ hk_ => trivial)); replace HB := Aside0.mk (hb); clear HO_5; clear hb hkp ho0))
   go_ret
   exact ⟨_, by first | rfl | (simp [errW_none, errW_some] <;> rfl) | (simp only [← hji3]; first | rfl | (simp [errW_none, errW_some] <;> rfl)) | (simp [*, errW_none, errW_some] <;> rfl), rq HO120, bqs⟩
end Go.Proofs.YthnfajboebaajaaGreatDoor.PA
namespace Go.Proofs.YthnfajboebaajaaGreatDoor
open Go.RowKit Go.Shelf Go.Proofs.YthnfajboebaajaaGreatDoorW.PrintWords
attribute [local go_sem] Oper.semAt_some
theorem bk_succ (zs : List Int) (k : Nat) (h : k < zs.length) : bk zs (k + 1) = bk zs k ++ [bkx zs k h] := by simp [bk, h]
theorem bk_length (zs : List Int) (k : Nat) (h : k ≤ zs.length) : (bk zs k).length = k := by
 induction k with
 | zero => rfl
 | succ k ih => rw [bk_succ zs k (by omega)]; simp [ih (by omega)]
theorem bk_mem {zs : List Int} {k : Nat} (h : k ≤ zs.length) (x : BkT zs) : x ∈ bk zs k ↔ (zs.length : Int) - k ≤ x.1.1 := by
 induction k with
 | zero => simp [bk]; have := x.2; omega
 | succ k ih =>
  rw [bk_succ zs k (by omega), List.mem_append, ih (by omega), List.mem_singleton]
  constructor
  ·rintro (h | h)
   ·omega
   rw [h]; simp only [bkx]; omega
  intro h
  by_cases e : (zs.length : Int) - k ≤ x.1.1
  ·exact .inl e
  right
  have h2 := x.2
  have h3 : x.1.1 = (zs.length : Int) - 1 - k := by omega
  apply Subtype.ext
  apply Prod.ext
  ·exact h3
  rw [h2.2.2, h3]; rfl
def enc2 {zs : List Int} (x : BkT zs) : Array Value := #[.int .i64 x.1.1, .int .i64 x.1.2]
def KB (n₀ Bs : Nat) (W W' : World) : Prop := Below n₀ W W' ∧ (Bs < W.heap.size → W'.heap[Bs]? = W.heap[Bs]?)
theorem KB.refl (n₀ Bs : Nat) (W : World) : KB n₀ Bs W W := ⟨Below.refl _ _, fun _ => rfl⟩
theorem KB.trans {n₀ Bs : Nat} {A B C : World} (h : KB n₀ Bs A B) (k : KB n₀ Bs B C) : KB n₀ Bs A C :=
 ⟨h.1.trans k.1, fun hb => (k.2 (Nat.lt_of_lt_of_le hb h.1.size)).trans (h.2 hb)⟩
theorem KB.setCell {n₀ Bs : Nat} {A W : World} (h : KB n₀ Bs A W) {p : Addr} (h0 : n₀ ≤ p.block) (h1 : p.block ≠ Bs) (v : Value) : KB n₀ Bs A (W.setCell p v) :=
 ⟨h.1.setCell h0 v, fun hb => (Below.heap_setCell W p v Bs (Ne.symm h1)).trans (h.2 hb)⟩
theorem KB.alloc {n₀ Bs : Nat} {A W : World} (h : KB n₀ Bs A W) (hn : n₀ ≤ W.heap.size) (o : Obj) : KB n₀ Bs A (W.alloc o) :=
 ⟨h.1.alloc hn o, fun hb => (Below.heap_alloc W o Bs (Nat.lt_of_lt_of_le hb h.1.size)).trans (h.2 hb)⟩
theorem KB.drew {n₀ Bs : Nat} {A W : World} (h : KB n₀ Bs A W) : KB n₀ Bs A W.drew := ⟨h.1.drew, h.2⟩
theorem KB.below {n₀ Bs : Nat} {A W W' : World} (h : KB n₀ Bs A W) (hb : Below W.heap.size W W') (hn : n₀ ≤ W.heap.size) : KB n₀ Bs A W' :=
 ⟨h.1.trans (hb.mono hn), fun h1 => (hb.block Bs (Nat.lt_of_lt_of_le h1 h.1.size)).trans (h.2 h1)⟩
theorem KB.grown {n₀ Bs : Nat} {A W W' : World} {row : Option Nat} (h : KB n₀ Bs A W) (hg : W.grownBy W' row) (hn : n₀ ≤ W.heap.size) (hr : ∀ k, row = some k → n₀ ≤ k ∧ k ≠ Bs) : KB n₀ Bs A W' :=
 ⟨h.1.grown hg hn (fun k e => (hr k e).1), fun h1 => (hg.block Bs (Nat.lt_of_lt_of_le h1 h.1.size) (fun e => (hr Bs e.symm).2 rfl)).trans (h.2 h1)⟩
theorem kb_t {n₀ Bs : Nat} {A B C : World} (h : KB n₀ Bs A B) (k : KB n₀ Bs B C) : KB n₀ Bs A C := h.trans k
theorem kb_b {n₀ Bs : Nat} {w : World} (hn : n₀ ≤ w.heap.size) (hs : Bs < w.heap.size) (W : World) (l : Nat) (o o' : Obj) (hl : w.heap.size ≤ l) (h : W.heap[l]? = some o) (h1 : o.isCells = false) (h2 : o.isWalk = false) : KB n₀ Bs W (W.putObj l o') :=
 ⟨belowK_b hn W l o o' hl h h1 h2, fun _ => World.putObj_heap_other (by omega)⟩
theorem back1_in (F : Fence) (n : Nat) (h7 : F.fn 167) (hro : F.round = none) (hn : 1 ≤ n) (l Bs n₀ : Nat) (A : Option Addr) (cap : Nat) (zs : List Int) (hm : zs.length ≤ 9223372036854775807) (J Jx : List (BkT zs) → World → Prop)
  (hY : ∀ pre x W, J pre W → pre.length < zs.length → YieldAt F (n - 1) Tryz.prog l (enc2 x) W fun e W' =>
   (e = .returned (.bool true) ∧ J (pre ++ [x]) W' ∧ KB n₀ Bs W W') ∨ (e = .returned (.bool false) ∧ Jx (pre ++ [x]) W'))
  (W : World) (hBs : Boxed W Bs 86 (.slice A zs.length cap)) (hc : ∀ W', Below n₀ W W' → Kd.C (Kd.int .i64) W' A zs.length zs) (h0 : J [] W) :
  CallsIn F n Tryz.prog 167 #[.func (.yield l) #[] #[], .pointer (some ⟨Bs, 0, none⟩)] W fun e W' => (∃ v, e = .returned v) ∧
   ((∃ ys, ys = bk zs zs.length ∧ J ys W') ∨ (∃ pre, (∃ k, k < zs.length ∧ pre = bk zs (k + 1)) ∧ Jx pre W')) := by
 have hBc := hBs.cell
 refine callsIn_of_wp Tryz.func167 rfl h7 ?_ hro
 simp only [Tryz.ntmps167, List.size_toArray, List.length_cons, List.length_nil, Nat.reduceAdd, Nat.reduceSub, Array.replicate_succ, Array.replicate_zero, List.push_toArray, List.append_toArray, List.nil_append, List.cons_append]
 gi_wp2
 gi_loopw [3] (fun i wr => ∃ k : Nat, k ≤ zs.length ∧ i = .int .i64 ((zs.length : Int) - 1 - k) ∧ J (bk zs k) wr ∧ KB n₀ Bs W wr)
  (fun i _ => ((intOf i) + 1).toNat)
 case atStart => exact ⟨0, Nat.zero_le _, by simp, h0, KB.refl _ _ _⟩
 case round =>
  obtain ⟨k, hk, rfl, hJs, hnx⟩ := hrel
  have hBs' : wr.cell? ⟨Bs, 0, none⟩ = some (.slice A zs.length cap) := (show Boxed wr Bs 86 _ from (hnx.2 hBs.lt).trans hBs).cell
  by_cases hlt : k < zs.length
  ·obtain ⟨ad, rfl, hcx⟩ := Kd.at_int (hc wr hnx.1) ((zs.length : Int) - 1 - k) (by omega) (by omega)
   obtain ⟨fn, tmps, assign, body, hy, hR⟩ := hY _ (bkx zs k hlt) wr hJs (by rw [bk_length _ _ hk]; exact hlt)
   dsimp only [enc2, bkx] at hy
   have hcy : wr.cell? (ad.add (zs.length - 1 - k)) = some (.int .i64 (rd zs ((zs.length : Int) - 1 - k))) := by
    have : ((zs.length : Int) - 1 - k).toNat = zs.length - 1 - k := by omega
    rw [← this]; exact hcx
   clear hcx
   gi_wp2
   refine hR.mono ?_
   rintro e W3 (⟨rfl, hJ3, hk3⟩ | ⟨rfl, hJx3⟩)
   ·gi_wp2
    go_roundw
    case rel => exact ⟨k + 1, by omega, by go_num, by rw [bk_succ _ _ hlt]; exact hJ3, hnx.trans hk3⟩
    case measure => simp [intOf]; omega
   gi_wp2
   refine bodyPost_ret (results_none rfl _ _ _) rfl ?_
   exact ⟨⟨_, rfl⟩, .inr ⟨_, ⟨k, hlt, rfl⟩, by rw [bk_succ _ _ hlt]; exact hJx3⟩⟩
  obtain rfl : k = zs.length := by omega
  gi_wp2
  go_end0
  exact ⟨⟨_, rfl⟩, .inl ⟨_, rfl, hJs⟩⟩
theorem back_stops (F : Fence) (n : Nat) (h7 : F.fn 167) (hro : F.round = none) (hn : 1 ≤ n) (Bs n₀ : Nat) (A : Option Addr) (cap : Nat) (zs : List Int) (hm : zs.length ≤ 9223372036854775807) (w : World)
  (hBs : Boxed w Bs 86 (.slice A zs.length cap)) (hn₀ : n₀ ≤ w.heap.size) (hc : ∀ W', Below n₀ w W' → Kd.C (Kd.int .i64) W' A zs.length zs) :
  SeqStopsK F n Tryz.prog 167 #[.pointer (some ⟨Bs, 0, none⟩)] enc2 (KB n₀ Bs) (fun ys => ys = bk zs zs.length) (fun pre => ∃ k, k < zs.length ∧ pre = bk zs (k + 1)) zs.length w := fun l J Jx W hW _ _ hY h0 =>
 back1_in F n h7 hro hn l Bs n₀ A cap zs hm J Jx hY W ((hW.block Bs hBs.lt).trans hBs) (fun W' hb => hc W' ((hW.mono hn₀).trans hb)) h0
theorem back_in (F : Fence) (n : Nat) (h5 : F.fn 128) (hro : F.round = none) (a : Option Addr) (len cap : Nat) (w : World) :
  CallsIn F n Tryz.prog 128 #[.slice a len cap] w fun e w' => e = .returned (.func (.func 167) #[] #[.pointer (some ⟨w.heap.size, 0, none⟩)]) ∧ w' = w.alloc (.cells #[.slice a len cap] 86) := by
 refine callsIn_of_wp Tryz.func128 rfl h5 ?_ hro
 simp only [Tryz.ntmps128, List.size_toArray, List.length_cons, List.length_nil, Nat.reduceAdd, Nat.reduceSub, Array.replicate_succ, Array.replicate_zero, List.push_toArray, List.append_toArray, List.nil_append, List.cons_append]
 gi_wp2
 go_ret
 exact ⟨rfl, rfl⟩
set_option linter.unusedVariables false
attribute [local go_sem] Oper.semAt_some
theorem rd_range {B : Int} (hB : 0 < B) {l : List Int} (h : Sv.Digs B l) (i : Int) : 0 ≤ rd l i ∧ rd l i < B := by
 unfold rd
 rw [List.getD_eq_getElem?_getD]
 cases hx : l[i.toNat]? with
 | none => simp; exact hB
 | some x => exact h x (List.mem_of_getElem? hx)
theorem order_in (F : Fence) (n : Nat) (h1 : F.fn 145) (h2 : F.fn 128) (h3 : F.fn 167) (hro : F.round = none) (hn : 3 ≤ n) (A0 : Option Addr) (c0 : Nat) (l0 : List Int) (A1 : Option Addr) (c1 : Nat) (l1 : List Int) (w : World)
  (hr0 : Kd.C (Kd.int .i64) w A0 l0.length l0) (hr1 : Kd.C (Kd.int .i64) w A1 l1.length l1) (he : l0.length = l1.length)
  (hd : ∀ i : Int, -4611686018427387904 ≤ rd l0 i - rd l1 i ∧ rd l0 i - rd l1 i ≤ 4611686018427387904) :
  CallsIn F n Tryz.prog 145 #[.slice A0 l0.length c0, .slice A1 l1.length c1] w fun e w' => e = .returned (.int .i64 (ordAt l0 l1 l0.length)) ∧ Below w.heap.size w w' := by
 have hm0 := Kd.C_max hr0
 have hm1 := Kd.C_max hr1
 have h1' : 1 ≤ n := by omega
 have hen : ((l0.length : Int) != (l1.length : Int)) = false := by rw [he]; simp
 have hE := Lib.hid he
 clear he
 have HD := Lib.hid hd
 clear hd
 refine callsIn_of_wp_marks Tryz.func145 rfl h1 ?_ hro
 simp only [Tryz.ntmps145, List.size_toArray, List.length_cons, List.length_nil, Nat.reduceAdd, Nat.reduceSub, Array.replicate_succ, Array.replicate_zero, List.push_toArray, List.append_toArray, List.nil_append, List.cons_append]
 gi_wp2_with (gi_at_call 128; refine (back_in F (n - 1) h2 hro _ _ _ _).mono ?_; rintro e w' ⟨rfl, rfl⟩)
 obtain ⟨W0, hW0⟩ : ∃ W0, ((w.alloc (.cells #[.slice A1 l1.length c1] 86)).alloc (.cells #[.int .i64 0] 3)).alloc (.cells #[.slice A0 l0.length c0] 86) = W0 := ⟨_, rfl⟩
 have hB0 : Below w.heap.size w W0 := by rw [← hW0]; exact (((Below.refl _ w).alloc (Nat.le_refl _) _).alloc (by simp) _).alloc (by simp; omega) _
 have hs0 : W0.heap.size = w.heap.size + 3 := by rw [← hW0]; simp
 have hby : Boxed W0 w.heap.size 86 (.slice A1 l1.length c1) := by rw [← hW0]; exact ((Boxed.new _ _ _).alloc _).alloc _
 have hbr : Boxed W0 (w.heap.size + 1) 3 (.int .i64 0) := by
  rw [← hW0]; have := (Boxed.new (w.alloc (.cells #[.slice A1 l1.length c1] 86)) 3 (.int .i64 0)).alloc (.cells #[.slice A0 l0.length c0] 86); rwa [World.size_alloc] at this
 have hbs : Boxed W0 (w.heap.size + 1 + 1) 86 (.slice A0 l0.length c0) := by
  rw [← hW0]; have := Boxed.new ((w.alloc (.cells #[.slice A1 l1.length c1] 86)).alloc (.cells #[.int .i64 0] 3)) 86 (.slice A0 l0.length c0); simpa using this
 rw [hW0]
 refine wpIn_rangeFunc_ownF hro h1' (gf := 167) (lb := #[.pointer (some ⟨w.heap.size + 1 + 1, 0, none⟩)]) rfl h3 (enters_of Tryz.func167 (by kernel_rfl) rfl)
  (back_stops F (n - 1) h3 hro (by omega) (w.heap.size + 1 + 1) w.heap.size A0 c0 l0 hm0 W0 hbs (by omega) (fun W' hb => Kd.C_below hr0 (hB0.trans hb))) kb_t (kb_b (by omega) (by omega)) (Below.refl _ _) (fun _ => rfl)
  (fun pre W => ((∀ p ∈ pre, p.1.2 = rd l1 p.1.1) ∧ Boxed W w.heap.size 86 (.slice A1 l1.length c1) ∧ Boxed W (w.heap.size + 1) 3 (.int .i64 0)) ∧ Below w.heap.size w W)
  (fun c pre W => (c = .ret ∧ ∃ pre' x, pre = pre' ++ [x] ∧ (∀ p ∈ pre', p.1.2 = rd l1 p.1.1) ∧ x.1.2 ≠ rd l1 x.1.1 ∧ W.cell? ⟨w.heap.size + 1, 0, none⟩ = some (.int .i64 (x.1.2 - rd l1 x.1.1))) ∧ Below w.heap.size w W)
  (OwnFrom.and (Own.from (fun s A B row hs hg hr => ⟨hs.1, boxed_own _ _ (fun _ => _) s A B row hs.2.1 hg hr, boxed_own _ _ (fun _ => _) s A B row hs.2.2 hg hr⟩) _) (ownFrom_below (Nat.le_refl _) (by omega)))
  (fun c => OwnFrom.and (Own.from (fun s A B row hs hg hr => by obtain ⟨h, p, x, e1, e2, e3, e4⟩ := hs; exact ⟨h, p, x, e1, e2, e3, cell_kept e4 hg hr⟩) _) (ownFrom_below (Nat.le_refl _) (by omega)))
  ⟨⟨by simp, hby, hbr⟩, hB0⟩
  ?act1 ?assign ?body ?done ?stop
 case assign =>
  intro l x W K hK
  simp only [enc2]
  gi_wp2
  exact hK
 case body =>
  rintro l pre x W ⟨⟨hp, hy, hr⟩, hB⟩ _
  have hl1 := hE.out
  have hx0 := x.2.1
  have hx1 := x.2.2.1
  have hxd := HD.out x.1.1
  rw [← x.2.2.2] at hxd
  obtain ⟨⟨i, v⟩, hx⟩ := x
  simp only at hx0 hx1 hxd
  obtain ⟨ad, rfl, hcx⟩ := Kd.at_int (Kd.C_below hr1 hB) i hx0 (by omega)
  have hyc := hy.cell
  have hrc := hr.cell
  have hrf := hr.frozen
  have hi1 : i < (l1.length : Int) := by omega
  clear hl1
  obtain ⟨q, hq⟩ : ∃ q, rd l1 i = q := ⟨_, rfl⟩
  rw [hq] at hcx hxd
  have HQ := Lib.hid hq
  clear hq
  have hxd1 := hxd.1
  have hxd2 := hxd.2
  gi_wp2
  ·rename_i hne
   have hne' : v ≠ q := by simpa using hne
   refine ⟨KeepsOthers.setCell _ _ _, ⟨rfl, pre, _, rfl, hp, by rw [HQ.out]; exact hne', ?_⟩, hB.setCell (p := ⟨w.heap.size + 1, 0, none⟩) (by simp) _⟩
   rw [HQ.out]
   exact World.cell?_setCell_same' _ _ _ (by rw [hrc]; rfl)
  rename_i hne
  have hne' : v = q := by simpa using hne
  refine ⟨KeepsOthers.refl _, KB.refl _ _ _, ⟨fun p hm => ?_, hy, hr⟩, hB⟩
  rcases List.mem_append.1 hm with hm | hm
  ·exact hp p hm
  rw [List.mem_singleton] at hm
  rw [hm, HQ.out]
  exact hne'
 case done =>
  rintro D ys W hD rfl ⟨⟨hp, hy, hr⟩, hB⟩ hK
  have hrc := hr.cell
  have hrf := hr.frozen
  have hfin : ordAt l0 l1 l0.length = 0 := by
   have key : ∀ k : Nat, k ≤ l0.length → ordAt l0 l1 k = 0 := by
    intro k
    induction k with
    | zero => intro _; rfl
    | succ k ih =>
     intro hk
     have := hp (⟨((k : Int), rd l0 k), by simp only; omega, by simp only; omega, rfl⟩) ((bk_mem (Nat.le_refl _) _).2 (by simp only; omega))
     simp only at this
     rw [ordAt, if_pos this, ih (by omega)]
   exact key _ (Nat.le_refl _)
  have HF := Lib.hid hfin
  clear hfin
  gi_wp2
  have hK' := (KeepsOthers.setCell W ⟨w.heap.size + 1, 0, none⟩ (.int .i64 0)).same D _ hK rfl
  refine ⟨by simp, .inl ⟨_, _, rfl, run_takeDeferred hK', ?_⟩⟩
  have hc5 := cell_kept (World.cell?_setCell_same' W ⟨w.heap.size + 1, 0, none⟩ (.int .i64 0) (by rw [hrc]; rfl)) (grownBy_putObj' _ D (.deferred none)) (fun r e => by cases e; exact ⟨_, hK', rfl⟩)
  refine ⟨.int .i64 0, ?_, by rw [HF.out], (hB.setCell (p := ⟨w.heap.size + 1, 0, none⟩) (by simp) _).trans (belowK_b (w := w) (Nat.le_refl _) _ D _ _ (by omega) hK' rfl rfl)⟩
  simp [results, Tryz.f145, go_sem, hc5]
 case stop =>
  rintro D c pre W hD ⟨k, hk, rfl⟩ ⟨⟨rfl, pre', x, hpre, hp, hne, hrc⟩, hB⟩ hK
  rw [bk_succ _ _ hk] at hpre
  obtain ⟨rfl, rfl⟩ : bk l0 k = pre' ∧ bkx l0 k hk = x := by
   have h2 := List.append_inj' hpre rfl
   exact ⟨h2.1, by simpa using h2.2⟩
  have hfin : ordAt l0 l1 l0.length = (bkx l0 k hk).1.2 - rd l1 (bkx l0 k hk).1.1 := by
   have key : ∀ j : Nat, j ≤ k → ordAt l0 l1 l0.length = ordAt l0 l1 (l0.length - j) := by
    intro j
    induction j with
    | zero => intro _; rfl
    | succ j ih =>
     intro hj
     rw [ih (by omega)]
     have e : l0.length - j = (l0.length - (j + 1)) + 1 := by omega
     have := hp (⟨(((l0.length - (j + 1) : Nat) : Int), rd l0 ((l0.length - (j + 1) : Nat) : Int)), by simp only; omega, by simp only; omega, rfl⟩) ((bk_mem (by omega) _).2 (by simp only; omega))
     simp only at this
     rw [e, ordAt, if_pos this]
   have e : l0.length - k = (l0.length - (k + 1)) + 1 := by omega
   have e2 : (l0.length : Int) - 1 - k = ((l0.length - (k + 1) : Nat) : Int) := by omega
   simp only [bkx, e2] at hne ⊢
   rw [key k (Nat.le_refl _), e, ordAt, if_neg hne]
  rw [← hfin] at hrc
  clear hfin hne hp
  gi_wp2
  refine ⟨by simp, .inl ⟨_, _, rfl, run_takeDeferred hK, ?_⟩⟩
  have hc5 := cell_kept hrc (grownBy_putObj' _ D (.deferred none)) (fun r e => by cases e; exact ⟨_, hK, rfl⟩)
  refine ⟨.int .i64 (ordAt l0 l1 l0.length), ?_, rfl, hB.trans (belowK_b (w := w) (Nat.le_refl _) W D _ _ (by omega) hK rfl rfl)⟩
  simp [results, Tryz.f145, go_sem, hc5]
theorem digs_sub {x y : List Int} (hx : Sv.Digs Sv.LB x) (hy : Sv.Digs Sv.LB y) (i : Int) : -4611686018427387904 ≤ rd x i - rd y i ∧ rd x i - rd y i ≤ 4611686018427387904 := by
 have h1 := rd_range (by decide) hx i
 have h2 := rd_range (by decide) hy i
 have : Sv.LB = 1000000000 := rfl
 omega
theorem bIorder.calls (A0 : Option Addr) (c0 : Nat) (l0 : List Int) (A1 : Option Addr) (c1 : Nat) (l1 : List Int) (r : Int) (w : World) (hr0 : Kd.C (Kd.int .i64) w A0 l0.length l0) (hc0 : l0.length ≤ c0) (hr1 : Kd.C (Kd.int .i64) w A1 l1.length l1) (hc1 : l1.length ≤ c1) (h : bIorder.f l0 l1 = some r) :
  Calls Tryz.prog 145 #[.slice A0 l0.length c0, .slice A1 l1.length c1] w fun e w' => e = .returned (.int .i64 r) ∧ Below w.heap.size w w' := by
 unfold bIorder.f at h
 by_cases hd : Sv.Digs Sv.LB l0 ∧ Sv.Digs Sv.LB l1 ∧ l0.length ≤ 4611686018427387904 ∧ l1.length ≤ 4611686018427387904
 ·rw [if_pos hd] at h
  obtain rfl := Option.some.inj h
  by_cases he : l0.length = l1.length
  ·rw [if_pos he]
   exact (callsIn_wide (n := 3)).1 (order_in Fence.wide 3 trivial trivial trivial rfl (by omega) A0 c0 l0 A1 c1 l1 w hr0 hr1 he (digs_sub hd.1 hd.2.1))
  rw [if_neg he]
  have hen : ((l0.length : Int) != (l1.length : Int)) = true := by rw [bne_iff_ne]; omega
  have h1 := hd.2.2.1
  have h2 := hd.2.2.2
  have hz := run_underlying (P := Tryz.prog) Tryz.underlying3
  clear hd h he
  go_enter Tryz.func145, Tryz.ntmps145
  go_wp2
  refine bodyPost_ret (v := .int .i64 ((l0.length : Int) - l1.length)) ?_ rfl ⟨rfl, ?_⟩
  ·simp [results, Tryz.f145, go_sem]
  exact ((Below.refl _ w).alloc (Nat.le_refl _) _).alloc (by simp) _
 rw [if_neg hd] at h
 cases h
end Go.Proofs.YthnfajboebaajaaGreatDoor
