import Derived.OrdersIn
import Derived.OrdersHeld
import Derived.Deep.RegionHeld3
import Derived.OwnWalkIn
import Derived.Test.YtihbebbabjklkaaGreatDoorAD
import Derived.Test.YtihbebbabjklkaaGreatDoorAG2
import Derived.Test.YtihbebbabjklkaaGreatDoorAG1
import Derived.Test.YtihbebbabjklkaaGreatDoorAG3
set_option maxHeartbeats 8000000
set_option maxRecDepth 100000
set_option linter.unusedVariables false
namespace Go.Proofs.YtihbebbabjklkaaGreatDoor
set_option linter.unusedVariables false
open Go.RowKit
def plainOp : Op → Bool
 | .move _ | .assign _ | .load _ _ | .binOp .. | .unOp .. | .indexAddr .. | .fieldAddr .. | .store .. => true
 | _ => false
theorem plain_about {P : Program} {o : Oper} (h : plainOp o.op = true) (w : World) (ρ : Operand → Value) : o.about P w ρ = none := by
 unfold Oper.about
 cases ho : o.op <;> first | rfl | (rw [ho] at h; cases h)
theorem plain_defer {o : Oper} (h : plainOp o.op = true) : ∀ c, o.op ≠ .defer c := by
 intro c hc
 rw [hc] at h
 cases h
def EndsPlain : Result Next → Prop
 | .ok (.value _) _ => True
 | .ok .skip _ => True
 | .halt _ _ => True
 | _ => False
theorem endsPlain_value {x : Result Value} : EndsPlain (x.andThen fun v w => .ok (.value v) w) := by
 cases x <;> exact trivial
theorem endsPlain_skip {x : Result Unit} : EndsPlain (x.andThen fun _ w => .ok .skip w) := by
 cases x <;> exact trivial
theorem plain_run {P : Program} {o : Oper} (h : plainOp o.op = true) (ρ : Operand → Value) (w : World) : EndsPlain ((execOp ρ o).run P w) := by
 unfold execOp
 cases ho : o.op <;> first | (rw [ho] at h; cases h; done) | skip
 all_goals simp only [Sem.run_bind, Sem.run_pure, bind_pure_comp, Sem.run_map]
 all_goals first | exact trivial | exact endsPlain_value | exact endsPlain_skip
theorem plain_wpIn {F : Fence} {n : Nat} {P : Program} {Q : Exit → Act → World → Prop} {o : Oper} (h : plainOp o.op = true) {a : Act} {w : World} {K K' : Act → World → Prop} (hK : ∀ a w, K a w → K' a w) (hw : o.wp P a w K Q) : o.wpIn F n P a w K' Q := by
 unfold Oper.wpIn
 refine ⟨fun f hf => (by rw [plain_about h] at hf; cases hf), ?_⟩
 rw [Oper.semAt_plain F _ _ (plain_defer h)]
 unfold Oper.wp at hw
 have he := plain_run (P := P) h a.eval w
 revert he hw
 generalize (execOp a.eval o).run P w = R
 intro hw he
 cases R with
 | ok x w' =>
  cases x <;> first | exact hK _ _ hw | exact he.elim
 | halt x w' => cases x <;> first | exact hw | exact hw.elim
theorem wpAnyIn_of_wpAny {F : Fence} {n : Nat} {P : Program} {md : Region.Mode} {ops : Array Oper} {Q : Exit → Act → World → Prop} (hp : ∀ (i : Nat) (o : Oper), ops[i]? = some o → plainOp o.op = true) (hlo : ¬ LetsOut Q) :
  ∀ (fuel : Nat) (listed : Array Bool) (a : Act) (w : World), wpAny P md ops Q fuel listed a w → wpAnyIn F n P md ops Q fuel listed a w
 | 0, _, _, _, h => h
 | fuel + 1, listed, a, w, h => ⟨h.1, fun i hi => by
  have h1 := h.2 i hi
  unfold wpOp at h1
  unfold wpOpIn
  cases ho : ops[i]? with
  | none => simp only [ho] at h1 ⊢; exact wpAnyIn_of_wpAny hp hlo fuel _ a w h1
  | some o =>
   simp only [ho] at h1 ⊢
   by_cases hw : Region.wanted o (yielded ops a.tmps) = true
   ·rw [if_pos hw] at h1 ⊢
    rcases h1 with h1 | h1
    ·exact plain_wpIn (hp i o ho) (fun a' w' h' => wpAnyIn_of_wpAny hp hlo fuel _ a' w' h') h1
    ·exact absurd h1.2 hlo
   ·rw [if_neg hw] at h1 ⊢
    exact ⟨fun f hf => (by rw [plain_about (hp i o ho)] at hf; cases hf), wpAnyIn_of_wpAny hp hlo fuel _ _ w h1⟩⟩
theorem plain_all {ops : Array Oper} (h : (ops.toList.all fun o => plainOp o.op) = true) : ∀ (i : Nat) (o : Oper), ops[i]? = some o → plainOp o.op = true := fun i o ho => by
 have hm : o ∈ ops.toList := List.mem_of_getElem? (by rw [Array.getElem?_toList]; exact ho)
 have := List.all_eq_true.1 h o hm
 simpa using this
def wpAnyS (P : Program) (md : Region.Mode) (ops : Array Oper) (Q : Exit → Act → World → Prop) (S : World → Prop) (z : Nat) : Nat → Array Bool → Act → World → Prop
 | 0, listed, a, w => Region.ready md ops listed = [] ∧ Q .normal a w
 | fuel + 1, listed, a, w =>
  (Region.ready md ops listed = [] → Q .normal a w) ∧
  ∀ i ∈ Region.ready md ops listed, wpOp P ops Q i (fun a' w' => ((listed.setIfInBounds i true).getD z true = false → S w') ∧ wpAnyS P md ops Q S z fuel (listed.setIfInBounds i true) a' w') a w
section
variable {P : Program} {ops : Array Oper} {Q : Exit → Act → World → Prop} {md : Region.Mode} {S : World → Prop} {z : Nat}
theorem wpAny_of_S : ∀ (fuel : Nat) (listed : Array Bool) (a : Act) (w : World), wpAnyS P md ops Q S z fuel listed a w → wpAny P md ops Q fuel listed a w
 | 0, _, _, _, h => h
 | fuel + 1, _, _, _, h => ⟨h.1, fun i hi => wpOp_mono (fun a' w' h' => wpAny_of_S fuel _ a' w' h'.2) (h.2 i hi)⟩
theorem wpAnyS_first {i : Nat} {oi : Oper} {v : Value} (hi : ops[i]? = some oi) (hsel : ∀ (j : Nat) (o : Oper) cs b, ops[j]? = some o → o.op ≠ .select cs b)
  (hQ : ∀ c a w, Q (.panic c) (a.put oi.dst v) w → Q (.panic c) a w) (hz : (ops[z]?.map fun oz => oz.after.toList.any fun e => Region.binds md e && e.on == i) = some true) :
  ∀ (fuel : Nat) (listed : Array Bool) (a : Act) (w : World),
   (∀ j oj, ops[j]? = some oj → j ≠ i → listed.getD j true = false → (∀ e ∈ oj.after, Region.binds md e = true → e.on ≠ i) → oi.apart ops oj = true) →
   i ∈ Region.ready md ops listed → listed.getD z true = false → YieldsIf P ops S oi v a → S w →
   wpAnyS P md ops Q S z fuel (listed.setIfInBounds i true) (a.put oi.dst v) w → wpAnyS P md ops Q S z (fuel + 1) listed a w := by
 intro fuel
 induction fuel with
 | zero =>
  intro listed a w _ hr _ hy hS H
  refine ⟨fun h => (by rw [h] at hr; cases hr), fun j hj => ?_⟩
  by_cases hji : j = i
  ·subst hji
   exact hy.wpOp hi hS ⟨fun _ => hS, H⟩
  have h0 := ready_mono hj hji
  rw [H.1] at h0
  cases h0
 | succ fuel ih =>
  intro listed a w hfree hr hlz hy hS H
  refine ⟨fun h => (by rw [h] at hr; cases hr), fun j hj => ?_⟩
  by_cases hji : j = i
  ·subst hji
   exact hy.wpOp hi hS ⟨fun _ => hS, H⟩
  have h1 := H.2 j (ready_mono hj hji)
  obtain ⟨hjun, oj, hoj, hall⟩ := mem_ready.1 hj
  have hnot : ∀ e ∈ oj.after, Region.binds md e = true → e.on ≠ i := fun e he hb heq => by
   have h1 := hall e he hb
   have h0 := (mem_ready.1 hr).1
   rw [heq] at h1
   rcases Nat.lt_or_ge i listed.size with h' | h'
   ·simp [h'] at h0 h1; rw [h0] at h1; cases h1
   simp [Array.getElem?_eq_none h'] at h1
  have hjz : j ≠ z := by
   rintro rfl
   rw [hoj] at hz
   simp only [Option.map_some, Option.some.injEq, List.any_eq_true, Bool.and_eq_true, beq_iff_eq] at hz
   obtain ⟨e, he, hb, hon⟩ := hz
   exact hnot e (by simpa using he) hb hon
  have h2 := wpOp_putIf hoj (hfree j oj hoj hji hjun hnot) (fun cs b => hsel i oi cs b hi) (fun cs b => hsel j oj cs b hoj) hQ hy h1
  have hfree' : ∀ k ok, ops[k]? = some ok → k ≠ i → (listed.setIfInBounds j true).getD k true = false →
   (∀ e ∈ ok.after, Region.binds md e = true → e.on ≠ i) → oi.apart ops ok = true := fun k ok hk hki hun hno => by
   refine hfree k ok hk hki ?_ hno
   by_cases hjk : j = k
   ·subst hjk; exact hjun
   rw [getD_set_ne true hjk] at hun; exact hun
  have hlz' : (listed.setIfInBounds j true).getD z true = false := by rw [getD_set_ne true hjz]; exact hlz
  have hiz : i ≠ z := by
   rintro rfl
   obtain ⟨h0, o', ho', hall'⟩ := mem_ready.1 hr
   rw [ho'] at hz
   simp only [Option.map_some, Option.some.injEq, List.any_eq_true, Bool.and_eq_true, beq_iff_eq] at hz
   obtain ⟨e, he, hb, hon⟩ := hz
   have h1 := hall' e (by simpa using he) hb
   rw [hon] at h1
   rcases Nat.lt_or_ge i listed.size with h' | h'
   ·simp [h'] at h0 h1; rw [h0] at h1; cases h1
   simp [Array.getElem?_eq_none h'] at h1
  refine wpOp_mono (fun a' w' h3 => ?_) h2
  have hS' : S w' := h3.2.1 (by rw [getD_set_ne true hjz, getD_set_ne true hiz]; exact hlz)
  refine ⟨fun _ => hS', ih (listed.setIfInBounds j true) a' w' hfree' (ready_mono hr (Ne.symm hji)) hlz' h3.1 hS' ?_⟩
  rw [Array.setIfInBounds_comm _ _ hji]
  exact h3.2.2
theorem wpAnyS_take {i : Nat} {oi : Oper} {v : Value} {fuel : Nat} {listed : Array Bool} {a : Act} {w : World} (hi : ops[i]? = some oi)
  (hs : Region.noSelect ops = true) (hf : Region.free md ops listed i = true) (hr : (Region.ready md ops listed).contains i = true)
  (hz : (ops[z]?.map fun oz => oz.after.toList.any fun e => Region.binds md e && e.on == i) = some true) (hlz : listed.getD z true = false)
  (hQ : ∀ c a w, Q (.panic c) (a.put oi.dst v) w → Q (.panic c) a w) (hy : YieldsIf P ops S oi v a) (hS : S w)
  (h : wpAnyS P md ops Q S z fuel (listed.setIfInBounds i true) (a.put oi.dst v) w) : wpAnyS P md ops Q S z (fuel + 1) listed a w :=
 wpAnyS_first hi (Region.noSelect_spec hs) hQ hz fuel listed a w (Region.free_spec hi hf) (by simpa using hr) hlz hy hS h
theorem wpAnyS_one {i : Nat} {fuel : Nat} {listed : Array Bool} {a : Act} {w : World} (hr : Region.ready md ops listed = [i])
  (h : wpOp P ops Q i (fun a' w' => ((listed.setIfInBounds i true).getD z true = false → S w') ∧ wpAnyS P md ops Q S z fuel (listed.setIfInBounds i true) a' w') a w) : wpAnyS P md ops Q S z (fuel + 1) listed a w :=
 ⟨fun h0 => (by rw [hr] at h0; cases h0), fun j hj => (by rw [hr, List.mem_singleton] at hj; rw [hj]; exact h)⟩
theorem wpAnyS_store {i : Nat} {o : Oper} {fuel : Nat} {listed : Array Bool} {a : Act} {w w1 : World} (hr : Region.ready md ops listed = [i]) (ho : ops[i]? = some o) (hw : Region.wanted o (yielded ops a.tmps) = true) (hrun : (execOp a.eval o).run P w = .ok .skip w1)
  (hS : (listed.setIfInBounds i true).getD z true = false → S w1) (h : wpAnyS P md ops Q S z fuel (listed.setIfInBounds i true) (a.put o.dst undef) w1) : wpAnyS P md ops Q S z (fuel + 1) listed a w := by
 refine wpAnyS_one hr ?_
 unfold wpOp
 simp only [ho, hw, if_true]
 refine .inl ?_
 unfold Oper.wp
 rw [hrun]
 exact ⟨hS, h⟩
theorem wpAnyS_done {listed : Array Bool} {a : Act} {w : World} (hr : Region.ready md ops listed = []) (h : Q .normal a w) : ∀ fuel, wpAnyS P md ops Q S z fuel listed a w
 | 0 => ⟨hr, h⟩
 | _ + 1 => ⟨fun _ => h, fun j hj => (by rw [hr] at hj; cases hj)⟩
end
theorem wpIn_region_heldP {F : Fence} {n : Nat} {P : Program} {ops : Array Oper} {Q : Exit → Act → World → Prop} {S : World → Prop} (z : Nat) {id : Nat} {a : Act} {w : World} (hm : P.follows .mixedOrders = true) (hp : (ops.toList.all fun o => plainOp o.op) = true) (hlo : ¬ LetsOut Q)
  (h : wpAnyS P .any ops Q S z ops.size (Array.replicate ops.size false) a w.drew) : (Code.region id ops true).wpIn F n P Q a w :=
 wpIn_region_any hm (wpAnyIn_of_wpAny (plain_all hp) hlo _ _ _ _ (wpAny_of_S _ _ _ _ h))
set_option linter.unusedVariables false
set_option linter.unusedSimpArgs false
open Go.RowKit Go.Shelf Go.Proofs.WWords
attribute [local go_sem] Oper.semAt_some
theorem fld_snoc (d : Int) {zs : List Int} (pre : List (BkT zs)) (x : BkT zs) : fld d (pre ++ [x]) = stp d (fld d pre) x.1.1 x.1.2 := by simp [fld]
theorem fld_length (d : Int) {zs : List Int} (pre : List (BkT zs)) : (fld d pre).1.length = zs.length := by
 suffices h : ∀ (p : List Int × Int), p.1.length = zs.length → (pre.foldl (fun p x => stp d p x.1.1 x.1.2) p).1.length = zs.length from h _ (by simp)
 induction pre with
 | nil => intro p h; exact h
 | cons x t ih => intro p h; exact ih _ (by simp [stp, h])
theorem fld_range {d : Int} (h0 : 0 < d) {zs : List Int} (hz : Sv.Digs Sv.LB zs) (pre : List (BkT zs)) : 0 ≤ (fld d pre).2 ∧ (fld d pre).2 < d := by
 suffices h : ∀ (p : List Int × Int), 0 ≤ p.2 ∧ p.2 < d → 0 ≤ (pre.foldl (fun p x => stp d p x.1.1 x.1.2) p).2 ∧ (pre.foldl (fun p x => stp d p x.1.1 x.1.2) p).2 < d from h _ ⟨by simp, by simpa using h0⟩
 induction pre with
 | nil => intro p h; exact h
 | cons x t ih =>
  intro p h
  refine ih _ ?_
  have hv := rd_range (by decide) hz x.1.1
  rw [← x.2.2.2] at hv
  have hn : 0 ≤ p.2 * 1000000000 + x.1.2 := by omega
  simp only [stp]
  exact ⟨Int.tmod_nonneg _ hn, Int.tmod_lt_of_pos _ h0⟩
def ShI (w : World) (s : Nat) (d : Int) {zs : List Int} (pre : List (BkT zs)) (W : World) : Prop :=
 W.ownsRow s 3 1 (.slice (some ⟨s + 1, 0, none⟩) zs.length zs.length) zs.length ((fld d pre).1.map encZ) ∧ Boxed W s 3 (.int .i64 d) ∧ Boxed W (s + 2) 35 (.slice (some ⟨s + 1, 0, none⟩) zs.length zs.length) ∧ Boxed W (s + 3) 3 (.int .i64 (fld d pre).2)
theorem owns_own {β : Type} (base e size : Nat) (v : β → Value) (n : β → Nat) (xs : β → List Value) : Own (fun (s : β) W => W.ownsRow base e size (v s) (n s) (xs s)) := fun s A B row h2 hg hr => by
 cases row with
 | none =>
  refine h2.kept hg ?_
  cases hv : (v s).ownBlock with
  | none => exact .inl rfl
  | some k => exact .inr (by simp)
 | some r =>
  obtain ⟨o, ho, hc⟩ := hr r rfl
  exact h2.kept hg (ownsRow_ne_a h2 ho (fun cur e => by rw [e] at hc; cases hc))
theorem ShI.own (w : World) (s : Nat) (d : Int) {zs : List Int} : Own (ShI w s d (zs := zs)) := fun pre A B row h hg hr =>
 ⟨owns_own s 3 1 (fun _ => _) (fun _ => _) (fun (pre : List (BkT zs)) => (fld d pre).1.map encZ) pre A B row h.1 hg hr, boxed_own _ _ (fun _ => _) pre A B row h.2.1 hg hr, boxed_own _ _ (fun _ => _) pre A B row h.2.2.1 hg hr, boxed_own _ _ (fun (pre : List (BkT zs)) => .int .i64 (fld d pre).2) pre A B row h.2.2.2 hg hr⟩
theorem makeIn {F : Fence} {n : Nat} (w : World) {ops : Array Oper} {rest : List Oper} {o : Oper} {a : Act} {Q : Exit → Act → World → Prop}
  (hg : o.guard = none) (l c : Operand) (hop : o.op = Op.makeSlice 35 l c) (m : Nat) (hl : a.eval l = .int .i64 m) (hc : a.eval c = .int .i64 m) (hm : m ≤ 17592186044416)
  (hK : wpListIn F n Tryz.prog ops Q rest (a.put o.dst (.slice (some ⟨w.heap.size, 0, none⟩) m m)) (w.alloc (.cells (madeCells #[.int .i64 0] m) 3))) :
  wpListIn F n Tryz.prog ops Q (o :: rest) a w := by
 refine wpListIn_plain hg fun K hK' => ?_
 have hrun := run_make_row' (P := Tryz.prog) 35 3 (.int .i64 0) 8 Tryz.underlying35 (by kernel_rfl) rfl .i64 .i64 m (by omega) (by omega) w
 unfold Oper.wpIn
 refine ⟨?_, ?_⟩
 ·simp [Oper.about, hop]
 rw [Oper.semAt_plain F _ _ (by rw [hop]; intro c hc'; cases hc')]
 simp [execOp, hop, hl, hc, hrun, Result.andThen]
 exact hK' _ _ hK
theorem short_in (n : Nat) (hn : 3 ≤ n) (A0 : Option Addr) (c0 : Nat) (l0 : List Int) (d : Int) (k : Nat) (t : List Int) (w : World)
  (hr0 : Kd.C (Kd.int .i64) w A0 l0.length l0) (hd0 : 0 < d) (hd1 : d < 1000000000) (hz : Sv.Digs Sv.LB l0) (hlen : l0.length ≤ 17592186044416)
  (ht : PA.bItrim.f k (fld d (bk l0 l0.length)).1 = some t) :
  CallsIn Fence.wide n Tryz.prog 143 #[.slice A0 l0.length c0, .int .i64 d] w fun e w' => ∃ v0_ : Value, e = .returned (.tuple #[v0_, .int .i64 (fld d (bk l0 l0.length)).2]) ∧ Kd.R (Kd.int .i64) 3 w' w.heap.size (fun _ => True) v0_ t ∧ Below w.heap.size w w' := by
 have hf128 : Fence.wide.fn 134 := trivial
 have hf147 : Fence.wide.fn 144 := trivial
 have h1' : 1 ≤ n := by omega
 refine callsIn_of_wp_marks Tryz.func143 rfl trivial ?_ rfl
 simp only [Tryz.ntmps143, List.size_toArray, List.length_cons, List.length_nil, Nat.reduceAdd, Nat.reduceSub, Array.replicate_succ, Array.replicate_zero, List.push_toArray, List.append_toArray, List.nil_append, List.cons_append]
 gi_wp2_with (first | (gi_at_make; refine makeIn _ rfl _ _ rfl l0.length rfl rfl hlen ?_) | (gi_at_call 134; refine (back_in Fence.wide (n - 1) hf128 rfl _ _ _ _).mono ?_; rintro e w' ⟨rfl, rfl⟩) | gi_in)
 obtain ⟨s, hs⟩ : ∃ s, w.heap.size = s := ⟨_, rfl⟩
 simp only [hs]
 obtain ⟨W0, hW0⟩ : ∃ W0, (((((w.alloc (.cells #[.int .i64 d] 3)).alloc (.cells (madeCells #[.int .i64 0] l0.length) 3)).alloc (.cells #[.slice (some ⟨s + 1, 0, none⟩) l0.length l0.length] 35)).alloc (.cells #[.int .i64 0] 3)).alloc (.cells #[.slice A0 l0.length c0] 35)) = W0 := ⟨_, rfl⟩
 have hB0 : Below s w W0 := by
  rw [← hW0]
  refine ((((((Below.refl _ w).alloc ?_ _).alloc ?_ _).alloc ?_ _).alloc ?_ _).alloc ?_ _) <;> first | omega | (simp; omega)
 have hs0 : W0.heap.size = s + 5 := by rw [← hW0]; simp [hs]
 have e1 : (w.alloc (.cells #[.int .i64 d] 3)).heap.size = s + 1 := by simp [hs]
 have e2 : ((w.alloc (.cells #[.int .i64 d] 3)).alloc (.cells (madeCells #[.int .i64 0] l0.length) 3)).heap.size = s + 2 := by simp [hs]
 have e3 : (((w.alloc (.cells #[.int .i64 d] 3)).alloc (.cells (madeCells #[.int .i64 0] l0.length) 3)).alloc (.cells #[.slice (some ⟨s + 1, 0, none⟩) l0.length l0.length] 35)).heap.size = s + 3 := by simp [hs]
 have e4 : ((((w.alloc (.cells #[.int .i64 d] 3)).alloc (.cells (madeCells #[.int .i64 0] l0.length) 3)).alloc (.cells #[.slice (some ⟨s + 1, 0, none⟩) l0.length l0.length] 35)).alloc (.cells #[.int .i64 0] 3)).heap.size = s + 4 := by simp [hs]
 have hI0 : ShI w s d ([] : List (BkT l0)) W0 := by
  rw [← hW0]
  refine ⟨?_, ?_, ?_, ?_⟩
  ·refine World.ownsRow.alloc (World.ownsRow.alloc (World.ownsRow.alloc ?_ _) _) _
   have h := World.ownsRow_lit (base := s) (e := 3) (size := 1) (w.alloc (.cells #[.int .i64 d] 3)) (madeCells #[.int .i64 0] l0.length) l0.length (by rw [e1]; omega) (by simp only [maxLen]; omega) (by simp [madeCells])
   rw [e1] at h
   have hm : (madeCells #[.int .i64 0] l0.length).toList = (fld d ([] : List (BkT l0))).1.map encZ := by
    apply List.ext_getElem
    ·simp [fld, madeCells]
    intro i h1 h2
    simp [fld, madeCells, Nat.mod_one]
   rw [← hm]
   exact h
  ·have := ((((Boxed.new w 3 (.int .i64 d)).alloc (.cells (madeCells #[.int .i64 0] l0.length) 3)).alloc (.cells #[.slice (some ⟨s + 1, 0, none⟩) l0.length l0.length] 35)).alloc (.cells #[.int .i64 0] 3)).alloc (.cells #[.slice A0 l0.length c0] 35)
   rw [hs] at this
   exact this
  ·have := ((Boxed.new ((w.alloc (.cells #[.int .i64 d] 3)).alloc (.cells (madeCells #[.int .i64 0] l0.length) 3)) 35 (.slice (some ⟨s + 1, 0, none⟩) l0.length l0.length)).alloc (.cells #[.int .i64 0] 3)).alloc (.cells #[.slice A0 l0.length c0] 35)
   rw [e2] at this
   exact this
  have := (Boxed.new (((w.alloc (.cells #[.int .i64 d] 3)).alloc (.cells (madeCells #[.int .i64 0] l0.length) 3)).alloc (.cells #[.slice (some ⟨s + 1, 0, none⟩) l0.length l0.length] 35)) 3 (.int .i64 0)).alloc (.cells #[.slice A0 l0.length c0] 35)
  rw [e3] at this
  exact this
 have hbx : Boxed W0 (s + 4) 35 (.slice A0 l0.length c0) := by
  have := Boxed.new ((((w.alloc (.cells #[.int .i64 d] 3)).alloc (.cells (madeCells #[.int .i64 0] l0.length) 3)).alloc (.cells #[.slice (some ⟨s + 1, 0, none⟩) l0.length l0.length] 35)).alloc (.cells #[.int .i64 0] 3)) 35 (.slice A0 l0.length c0)
  rw [e4, hW0] at this
  exact this
 rw [hW0]
 clear hW0 e1 e2 e3 e4
 have mixed : Tryz.prog.follows .mixedOrders = true := by kernel_rfl
 refine wpIn_rangeFunc_ownF rfl h1' (gf := 182) (lb := #[.pointer (some ⟨s + 1 + 1 + 1 + 1, 0, none⟩)]) rfl trivial (enters_of Tryz.func182 (by kernel_rfl) rfl)
  (back_stops Fence.wide (n - 1) trivial rfl (by omega) (s + 4) s A0 c0 l0 (by omega) W0 hbx (by omega) (fun W' hb => Kd.C_below hr0 (by rw [hs]; exact hB0.trans hb))) kb_t (kb_b (by omega) (by omega)) (Below.refl _ _) (fun _ => rfl)
  (fun pre W => ShI w s d pre W ∧ Below s w W) (fun c pre W => False)
  (OwnFrom.and (Own.from (ShI.own w s d) _) (ownFrom_below (by omega) (by omega)))
  (fun c s A B row hs hg hr => hs) ⟨hI0, hB0⟩
  ?act1 ?assign ?body ?done ?stop
 case assign =>
  intro l x W K hK
  simp only [enc2]
  gi_wp2
  exact hK
 case body =>
  rintro l pre x W ⟨⟨hrow, hbd, hbs, hbr⟩, hB⟩ _
  have hfr := fld_range hd0 hz pre
  have hfl := fld_length d pre
  have hv := rd_range (by decide) hz x.1.1
  rw [← x.2.2.2] at hv
  have hx0 := x.2.1
  have hx1 := x.2.2.1
  have hsn := fld_snoc d pre x
  obtain ⟨⟨i, v⟩, hx⟩ := x
  simp only [stp] at hv hx0 hx1 hsn
  obtain ⟨r, hr⟩ : ∃ r, (fld d pre).2 = r := ⟨_, rfl⟩
  obtain ⟨o, ho⟩ : ∃ o, (fld d pre).1 = o := ⟨_, rfl⟩
  rw [hr] at hfr hsn hbr
  rw [ho] at hrow hfl hsn
  have hLB : Sv.LB = 1000000000 := rfl
  rw [hLB] at hv
  have hcd := hbd.cell
  have hcs := hbs.cell
  have hcr := hbr.cell
  have hfr' := hbr.frozen
  have hci : W.cell? ⟨s + 1, i.toNat, none⟩ = some (.int .i64 (rd o i)) := by
   rw [hrow.cellAt i.toNat (by omega), List.getElem?_map]
   have hil : i.toNat < o.length := by omega
   simp [rd, List.getElem?_eq_getElem hil, List.getD_eq_getElem?_getD]
  have hcf := hrow.frozenAt i.toNat
  have hv0 := hv.1
  have hv1 := hv.2
  have hr0' := hfr.1
  have hr1' : r < 1000000000 := by omega
  have hdne : d ≠ 0 := by omega
  have HX := Lib.hid hsn
  have HF := Lib.hid hfl
  have HR := Lib.hid hr
  have HO := Lib.hid ho
  clear hsn hfl hr ho hfr hv hLB
  gi_wp2
  obtain ⟨z, hz'⟩ : ∃ z, r * 1000000000 + v = z := ⟨_, rfl⟩
  rw [hz']
  obtain ⟨W1, hW1⟩ : ∃ W1, W.setCell ⟨s + 3, 0, none⟩ (.int .i64 z) = W1 := ⟨_, rfl⟩
  simp only [hW1]
  have hz0 : 0 ≤ z := by omega
  have hz1 : z < 1000000000000000000 := by omega
  have hrow1 : W1.ownsRow s 3 1 (.slice (some ⟨s + 1, 0, none⟩) l0.length l0.length) l0.length (o.map encZ) := by
   rw [← hW1]; exact hrow.kept (grownBy_setCell0_a W (s + 3) (.int .i64 z)) (.inr (by simp [Value.ownBlock]))
  have hbd1 : Boxed W1 s 3 (.int .i64 d) := by rw [← hW1]; exact hbd.kept (grownBy_setCell0_a W (s + 3) (.int .i64 z)) (by simp)
  have hbs1 : Boxed W1 (s + 2) 35 (.slice (some ⟨s + 1, 0, none⟩) l0.length l0.length) := by rw [← hW1]; exact hbs.kept (grownBy_setCell0_a W (s + 3) (.int .i64 z)) (by simp)
  have hcd1 := hbd1.cell
  have hcs1 := hbs1.cell
  have hko : KeepsOthers W W1 := by rw [← hW1]; exact KeepsOthers.setCell _ _ _
  have hkb : KB s (s + 4) W W1 := by rw [← hW1]; exact (KB.refl _ _ W).setCell (p := ⟨s + 3, 0, none⟩) (by simp) (by simp) _
  have hbB : Below s w W1 := hB.trans hkb.1
  have hbr1 : Boxed W1 (s + 3) 3 (.int .i64 z) := by rw [← hW1]; exact hbr.set _
  have hcr1 := hbr1.cell
  have hfr1 := hbr1.frozen
  have hci1 : W1.cell? ⟨s + 1, i.toNat, none⟩ = some (.int .i64 (rd o i)) := by
   have hil : i.toNat < o.length := by have := HF.out; omega
   rw [hrow1.cellAt i.toNat (by have := HF.out; omega), List.getElem?_map]
   simp [rd, List.getElem?_eq_getElem hil, List.getD_eq_getElem?_getD]
  have hcf1 := hrow1.frozenAt i.toNat
  clear hcd hcs hcr hfr' hci hcf hrow hbd hbs hbr
  trace_state
  have hlo : ¬ LetsOut (Exit.inBlock 1 (ownPostK (KB s (s + 4)) (fun pre W => ShI w s d pre W ∧ Below s w W) (fun c pre W => False) (pre ++ [⟨(i, v), hx⟩]) W)) := by
   rintro ⟨_, _, h⟩
   exact h
  refine wpIn_region_heldP (S := fun w' => w'.cell? ⟨s, 0, none⟩ = some (.int .i64 d) ∧ w'.cell? ⟨s + 2, 0, none⟩ = some (.slice (some ⟨s + 1, 0, none⟩) l0.length l0.length) ∧ w'.cell? ⟨s + 3, 0, none⟩ = some (.int .i64 z)) 10 mixed (by kernel_rfl) hlo ?_
  have hq0 : 0 ≤ Int.tdiv z d := Int.tdiv_nonneg hz0 (by omega)
  have hq1 : Int.tdiv z d ≤ z := Int.tdiv_le_self _ hz0
  have hm0 : 0 ≤ Int.tmod z d := Int.tmod_nonneg _ hz0
  have hm1 : Int.tmod z d < d := Int.tmod_lt_of_pos _ hd0
  have hwq : IntKind.i64.wrap (Int.tdiv z d) = Int.tdiv z d := by rw [IntKind.wrap_i64]; omega
  have hwm : IntKind.i64.wrap (Int.tmod z d) = Int.tmod z d := by rw [IntKind.wrap_i64]; omega
  have hHeld : W1.drew.cell? ⟨s, 0, none⟩ = some (.int .i64 d) ∧ W1.drew.cell? ⟨s + 2, 0, none⟩ = some (.slice (some ⟨s + 1, 0, none⟩) l0.length l0.length) ∧ W1.drew.cell? ⟨s + 3, 0, none⟩ = some (.int .i64 z) := ⟨hcd1, hcs1, hcr1⟩
  refine wpAnyS_take (i := 0) (v := .slice (some ⟨s + 1, 0, none⟩) l0.length l0.length) rfl (by kernel_rfl) (by kernel_rfl) (by kernel_rfl) (by kernel_rfl) (by kernel_rfl) (fun _ _ _ h => h) (.inl ⟨by rfl, fun w hSw => by obtain ⟨s1, s2, s3⟩ := hSw; go_simp; all_goals first | with_reducible rfl | (rw [hwq]; done) | (rw [hwm]; done)⟩) hHeld ?_
  (try simp only [Act.put, List.setIfInBounds_toArray, List.set_cons_zero, List.set_cons_succ])
  refine wpAnyS_take (i := 1) (v := .int .i64 i) rfl (by kernel_rfl) (by kernel_rfl) (by kernel_rfl) (by kernel_rfl) (by kernel_rfl) (fun _ _ _ h => h) (.inl ⟨by rfl, fun w hSw => by obtain ⟨s1, s2, s3⟩ := hSw; go_simp; all_goals first | with_reducible rfl | (rw [hwq]; done) | (rw [hwm]; done)⟩) hHeld ?_
  (try simp only [Act.put, List.setIfInBounds_toArray, List.set_cons_zero, List.set_cons_succ])
  refine wpAnyS_take (i := 2) (v := .int .i64 z) rfl (by kernel_rfl) (by kernel_rfl) (by kernel_rfl) (by kernel_rfl) (by kernel_rfl) (fun _ _ _ h => h) (.inl ⟨by rfl, fun w hSw => by obtain ⟨s1, s2, s3⟩ := hSw; go_simp; all_goals first | with_reducible rfl | (rw [hwq]; done) | (rw [hwm]; done)⟩) hHeld ?_
  (try simp only [Act.put, List.setIfInBounds_toArray, List.set_cons_zero, List.set_cons_succ])
  refine wpAnyS_take (i := 3) (v := .int .i64 d) rfl (by kernel_rfl) (by kernel_rfl) (by kernel_rfl) (by kernel_rfl) (by kernel_rfl) (fun _ _ _ h => h) (.inl ⟨by rfl, fun w hSw => by obtain ⟨s1, s2, s3⟩ := hSw; go_simp; all_goals first | with_reducible rfl | (rw [hwq]; done) | (rw [hwm]; done)⟩) hHeld ?_
  (try simp only [Act.put, List.setIfInBounds_toArray, List.set_cons_zero, List.set_cons_succ])
  refine wpAnyS_take (i := 5) (v := .int .i64 z) rfl (by kernel_rfl) (by kernel_rfl) (by kernel_rfl) (by kernel_rfl) (by kernel_rfl) (fun _ _ _ h => h) (.inl ⟨by rfl, fun w hSw => by obtain ⟨s1, s2, s3⟩ := hSw; go_simp; all_goals first | with_reducible rfl | (rw [hwq]; done) | (rw [hwm]; done)⟩) hHeld ?_
  (try simp only [Act.put, List.setIfInBounds_toArray, List.set_cons_zero, List.set_cons_succ])
  refine wpAnyS_take (i := 6) (v := .int .i64 d) rfl (by kernel_rfl) (by kernel_rfl) (by kernel_rfl) (by kernel_rfl) (by kernel_rfl) (fun _ _ _ h => h) (.inl ⟨by rfl, fun w hSw => by obtain ⟨s1, s2, s3⟩ := hSw; go_simp; all_goals first | with_reducible rfl | (rw [hwq]; done) | (rw [hwm]; done)⟩) hHeld ?_
  (try simp only [Act.put, List.setIfInBounds_toArray, List.set_cons_zero, List.set_cons_succ])
  refine wpAnyS_take (i := 4) (v := .int .i64 (Int.tdiv z d)) rfl (by kernel_rfl) (by kernel_rfl) (by kernel_rfl) (by kernel_rfl) (by kernel_rfl) (fun _ _ _ h => h) (.inl ⟨by rfl, fun w hSw => by obtain ⟨s1, s2, s3⟩ := hSw; go_simp; all_goals first | with_reducible rfl | (rw [hwq]; done) | (rw [hwm]; done)⟩) hHeld ?_
  (try simp only [Act.put, List.setIfInBounds_toArray, List.set_cons_zero, List.set_cons_succ])
  refine wpAnyS_take (i := 7) (v := .int .i64 (Int.tmod z d)) rfl (by kernel_rfl) (by kernel_rfl) (by kernel_rfl) (by kernel_rfl) (by kernel_rfl) (fun _ _ _ h => h) (.inl ⟨by rfl, fun w hSw => by obtain ⟨s1, s2, s3⟩ := hSw; go_simp; all_goals first | with_reducible rfl | (rw [hwq]; done) | (rw [hwm]; done)⟩) hHeld ?_
  (try simp only [Act.put, List.setIfInBounds_toArray, List.set_cons_zero, List.set_cons_succ])
  refine wpAnyS_take (i := 8) (v := .pointer (some ⟨s + 1, i.toNat, none⟩)) rfl (by kernel_rfl) (by kernel_rfl) (by kernel_rfl) (by kernel_rfl) (by kernel_rfl) (fun _ _ _ h => h) (.inl ⟨by rfl, fun w hSw => by obtain ⟨s1, s2, s3⟩ := hSw; go_simp; all_goals first | with_reducible rfl | (rw [hwq]; done) | (rw [hwm]; done)⟩) hHeld ?_
  (try simp only [Act.put, List.setIfInBounds_toArray, List.set_cons_zero, List.set_cons_succ])
  have hbd1d : Boxed W1.drew s 3 (.int .i64 d) := hbd1
  have hbs1d : Boxed W1.drew (s + 2) 35 (.slice (some ⟨s + 1, 0, none⟩) l0.length l0.length) := hbs1
  have hbr1d : Boxed W1.drew (s + 3) 3 (.int .i64 z) := hbr1
  have hst := (hrow1.kept (w' := W1.drew) (row := none) ⟨rfl, rfl, rfl, Nat.le_refl _, fun _ _ _ => rfl⟩ (.inr (by simp [Value.ownBlock]))).stored i.toNat (.int .i64 (Int.tdiv z d))
  refine wpAnyS_store (i := 9) (w1 := W1.drew.setCell ⟨s + 1, i.toNat, none⟩ (.int .i64 (Int.tdiv z d))) (by kernel_rfl) rfl (by rfl) (by go_simp) (fun _ => ?_) ?_
  ·exact ⟨(hbd1d.kept hst.2 (by simp)).cell, (hbs1d.kept hst.2 (by simp)).cell, (hbr1d.kept hst.2 (by simp)).cell⟩
  (try simp only [Act.put, List.setIfInBounds_toArray, List.set_cons_zero, List.set_cons_succ])
  refine wpAnyS_store (i := 10) (w1 := (W1.drew.setCell ⟨s + 1, i.toNat, none⟩ (.int .i64 (Int.tdiv z d))).setCell ⟨s + 3, 0, none⟩ (.int .i64 (Int.tmod z d))) (by kernel_rfl) rfl (by rfl) (by go_simp) (fun h => by have h' : true = false := h; cases h') ?_
  refine wpAnyS_done (by kernel_rfl) ?_ _
  have hq2 : fld d (pre ++ [⟨(i, v), hx⟩]) = (o.set i.toNat (Int.tdiv z d), Int.tmod z d) := by rw [HX.out, hz']
  refine ⟨((hko.trans (KeepsOthers.drew _)).trans (KeepsOthers.setCell _ _ _)).trans (KeepsOthers.setCell _ _ _), (hkb.drew.setCell (p := ⟨s + 1, i.toNat, none⟩) (by simp) (by simp) _).setCell (p := ⟨s + 3, 0, none⟩) (by simp) (by simp) _, ⟨?_, ?_, ?_, ?_⟩, ((hbB.drew).setCell (p := ⟨s + 1, i.toNat, none⟩) (by simp) _).setCell (p := ⟨s + 3, 0, none⟩) (by simp) _⟩
  ·rw [hq2, List.map_set]
   exact hst.1.kept (grownBy_setCell0_a _ (s + 3) _) (.inr (by simp [Value.ownBlock]))
  ·exact (hbd1d.kept hst.2 (by simp)).kept (grownBy_setCell0_a _ (s + 3) _) (by simp)
  ·exact (hbs1d.kept hst.2 (by simp)).kept (grownBy_setCell0_a _ (s + 3) _) (by simp)
  rw [hq2]
  exact (hbr1d.kept hst.2 (by simp)).set _
 case done =>
  rintro D ys W hD rfl ⟨⟨hrow, hbd, hbs, hbr⟩, hB⟩ hK
  have hfl := fld_length d (bk l0 l0.length)
  obtain ⟨fo, hfo⟩ : ∃ fo, (fld d (bk l0 l0.length)).1 = fo := ⟨_, rfl⟩
  obtain ⟨fr, hfr⟩ : ∃ fr, (fld d (bk l0 l0.length)).2 = fr := ⟨_, rfl⟩
  rw [hfo] at hrow hfl ht
  rw [hfr] at hbr
  simp only [hfr]
  have hR : Kd.R (Kd.int .i64) 3 W.drew w.heap.size (fun k => k = s + 1) (.slice (some ⟨s + 1, 0, none⟩) l0.length l0.length) fo := by
   refine Kd.R_of_own (enc := .int .i64) ?_ (fun k hk => ?_)
   ·have := hrow.kept (w' := W.drew) (row := none) ⟨rfl, rfl, rfl, Nat.le_refl _, fun _ _ _ => rfl⟩ (.inr (by simp [Value.ownBlock]))
    rw [hfl, hs]
    exact this
   simpa [Value.ownBlock] using hk.symm
  have hBd : Below w.heap.size w W.drew := by rw [hs]; exact hB.drew
  have hbsd : Boxed W.drew (s + 2) 35 (.slice (some ⟨s + 1, 0, none⟩) l0.length l0.length) := hbs
  have hbrd : Boxed W.drew (s + 3) 3 (.int .i64 fr) := hbr
  have hKd : W.drew.heap[D]? = some (.deferred (some [])) := hK
  gi_wp2
  refine wpIn_wide.2 ?_
  go_region_held3 (fun w' => w'.cell? ⟨s + 2, 0, none⟩ = some (.slice (some ⟨s + 1, 0, none⟩) l0.length l0.length) ∧ w'.cell? ⟨s + 3, 0, none⟩ = some (.int .i64 fr)) (first | exact ⟨hbsd.cell, hbrd.cell⟩ | exact ⟨hc2.cell, hc3.cell⟩) (first | (go_at_call 144; refine (PA.trimR k _ ⟨hR⟩ ht).mono ?_; rintro e w' ⟨rfl, ho, hk⟩; have hb := below_step hBd hk; replace ho := ho.out; have hc2 : Boxed w' (s + 2) 35 (.slice (some ⟨s + 1, 0, none⟩) l0.length l0.length) := (hk.block (s + 2) hbsd.lt).trans hbsd; have hc3 : Boxed w' (s + 3) 3 (.int .i64 fr) := (hk.block (s + 3) hbrd.lt).trans hbrd))
  gi_wp2
  refine ⟨by simp, .inl ⟨_, _, rfl, run_takeDeferred (show w'.heap[D]? = some (.deferred (some [])) from (hk.block D (Array.getElem?_eq_some_iff.1 hKd).1).trans hKd), ?_⟩⟩
  have hKe : w'.heap[D]? = some (.deferred (some [])) := (hk.block D (Array.getElem?_eq_some_iff.1 hKd).1).trans hKd
  refine ⟨.tuple #[.slice (some ⟨s + 1, 0, none⟩) t.length l0.length, .int .i64 fr], ?_, _, by rw [hfr], ?_, hb.trans (by rw [hs]; exact belowK_b (w := w) (by omega) w' D _ _ (by omega) hKe rfl rfl)⟩
  ·simp [results, Tryz.f143, go_sem]
  obtain ⟨inner, ho2⟩ := Kd.R_own ho
  have hne := ownsRow_ne_a ho2 hKe (fun cur e => by cases e)
  exact Kd.R_mono (Kd.R_grown (Kd.R_tight rfl ho) (grownBy_putObj' w' D (.deferred none)) (fun k hk e => by rw [← hk] at hne; rcases hne with h | h; exact (by cases h); exact h e)) (fun _ _ => trivial)
 case stop =>
  rintro D c pre W hD hp hf hK
  exact hf.elim
theorem bIshort.calls (k : Nat) (A0 : Option Addr) (c0 : Nat) (l0 : List Int) (a1 : Int) (r1 : List Int) (r2 : Int) (w : World) (hr0 : Kd.C (Kd.int .i64) w A0 l0.length l0) (hc0 : l0.length ≤ c0) (h : bIshort.f k l0 a1 = some (r1, r2)) :
  Calls Tryz.prog 143 #[.slice A0 l0.length c0, .int .i64 a1] w fun e w' => ∃ v0_ : Value, e = .returned (.tuple #[v0_, .int .i64 r2]) ∧ Kd.R (Kd.int .i64) 3 w' w.heap.size (fun _ => True) v0_ r1 ∧ Below w.heap.size w w' := by
 unfold bIshort.f at h
 split at h
 ·rename_i hc
  obtain ⟨t, ht, h⟩ := Option.bind_eq_some_iff.mp h
  simp only [Option.some.injEq, Prod.mk.injEq] at h
  obtain ⟨rfl, rfl⟩ := h
  exact callsIn_wide.1 (short_in 3 (by omega) A0 c0 l0 a1 k t w hr0 hc.1 hc.2.1 hc.2.2.1 hc.2.2.2 ht)
 cases h
end Go.Proofs.YtihbebbabjklkaaGreatDoor
namespace Go.Proofs.YtihbebbabjklkaaGreatDoor.PA
set_option linter.unusedVariables false
set_option linter.unusedSimpArgs false
open Go.RowKit Go.Proofs.WWords Go.Proofs.WLast Go.Proofs.WMore
instance : Ctr 142 (type_of% @bIorder.calls) := ⟨@bIorder.calls, _, Tryz.func142, by kernel_rfl, rfl⟩
instance : Ctr 143 (type_of% @bIshort.calls) := ⟨@bIshort.calls, _, Tryz.func143, by kernel_rfl, rfl⟩
instance : Ctr 107 (type_of% @bItimes.calls) := ⟨@bItimes.calls, _, Tryz.func107, by kernel_rfl, rfl⟩
theorem Rg {w w1 : World} {base : Nat} {ok : Nat → Prop} {v : Value} {xs : List Int} {row : Option Nat} (h : Z0 (Kd.R (Kd.int .i64) 3 w base ok v xs)) (hg : w.grownBy w1 row) (hn : ∀ k, v.ownBlock = some k → some k ≠ row) : Z0 (Kd.R (Kd.int .i64) 3 w1 base ok v xs) :=
 ⟨Kd.R_reok rfl (Kd.R_grown (Kd.R_tight rfl h.out) hg (fun k e => hn k e.symm)) (fun k e => h.out.1 k e)⟩
theorem bIestimateW.ok {k : Nat} {l0 : List Int} {j : Int} {l1 : List Int} {r : Int × List Int} (h : bIestimateW.f k l0 j l1 = some r) : 0 ≤ j ∧ j + (l1.length : Int) + 1 ≤ (l0.length : Int) := by
 unfold bIestimateW.f at h
 exact (gn h).1
instance : Ctr 145 (type_of% @estW) := ⟨@estW, _, Tryz.func145, by kernel_rfl, rfl⟩
theorem divC (k : Nat) (A0 : Option Addr) (c0 : Nat) (l0 : List Int) (A1 : Option Addr) (c1 : Nat) (l1 r1 r2 : List Int) (w : World) (h0 : Kd.C (Kd.int .i64) w A0 l0.length l0) (hc0 : l0.length ≤ c0) (h1 : Kd.C (Kd.int .i64) w A1 l1.length l1) (hc1 : l1.length ≤ c1) (h : bIdivide.f k l0 l1 = some (r1, r2)) :
  Calls Tryz.prog 104 #[.slice A0 l0.length c0, .slice A1 l1.length c1] w fun e w' => ∃ X1 d1 X2 d2, e = .returned (.tuple #[.slice X1 r1.length d1, .slice X2 r2.length d2]) ∧ Kd.C (Kd.int .i64) w' X1 r1.length r1 ∧ r1.length ≤ d1 ∧ Kd.C (Kd.int .i64) w' X2 r2.length r2 ∧ r2.length ≤ d2 ∧ Below w.heap.size w w' := by
 have HB := Z0.mk (Below.refl w.heap.size w)
 have hu := Tryz.underlying35
 unfold bIdivide.f at h
 obtain ⟨t, A3, h⟩ := bnd h
 rcases jd h with ⟨-, b1, h⟩ | ⟨-, b1, h⟩
 · cases h
   go_enter Tryz.func104, Tryz.ntmps104
   go_wp2_with (refine cG rfl ?_; intro w1 hb; replace HB := fB HB hb)
   go_ret2
   exact ⟨none, 0, A0, c0, rfl, Kd.C_nil _ _, Nat.le_refl _, Kd.C_below h0 bqs, hc0, bqs⟩
 rcases je h with ⟨-, b2, b3, h⟩ | ⟨-, b2, b3, h⟩
 · obtain ⟨b4, -, h⟩ := gd h
   obtain ⟨⟨q, x⟩, A4, h⟩ := bnd h
   obtain ⟨t', A5, h⟩ := bnd h
   cases h
   have b5 : decide (0 < l1.length) = true := decide_eq_true (by omega)
   go_enter Tryz.func104, Tryz.ntmps104
   go_wp2_with (first
    | ((with_reducible refine gc_ 142 rfl ?_); refine cG rfl ?_; intro w1 hb; replace h0 := Kd.C_below h0 hb; replace h1 := Kd.C_below h1 hb; replace HB := fB HB hb; clear hb; obtain ⟨ad, rfl, hx, p, q⟩ := atI h1 0 (by omega) b4; rw [show ((0 : Int)).toNat = 0 from rfl, Addr.add_zero'] at hx; have q' : (0 < l1.length) = True := eq_true (by omega))
    | ((with_reducible refine gd_ 34 rfl ?_); refine litR (Kd.int .i64) [x] [.int .i64 x] (Kd.reps_scalar [x]) ?_; intro v3 w3 hb HO; obtain ⟨A5', c5, rfl⟩ := Kd.R_slice HO.out; replace h2 := Kd.C_below h2 hb; replace HB := fB HB hb; clear hb)
    | ((with_reducible refine gc_ 144 rfl ?_); refine cX rfl ?_; rintro _ w4 ⟨rfl, HO', hb⟩; refine ⟨_, rfl, ?_⟩; replace h2 := Kd.C_below h2 hb; replace HB := fB HB hb; clear hb)
    | (refine cX rfl ?_; rintro _ w2 ⟨v2, rfl, h2, hb⟩; refine ⟨_, rfl, ?_⟩; obtain ⟨A2', c2, rfl, hc2, h2⟩ := Kd.R_reads h2; replace HB := fB HB hb; clear hb))
   go_ret2
   obtain ⟨-, hc, h3⟩ := Kd.R_reads' HO'.out
   exact ⟨_, _, _, _, rfl, cq h2, hc2, cq h3, hc, bqs⟩
 have hj := i64_w ((l1.length : Int) - 1)
 generalize hj2 : wrap64 ((l1.length : Int) - 1) = j at h hj
 obtain ⟨-, b4, h⟩ := gd h
 obtain ⟨-, b5, h⟩ := gd h
 obtain ⟨b9, b6, b7, h⟩ := fQ h
 obtain ⟨sc, hsc, h⟩ := yb h
 obtain ⟨t1, A4, h⟩ := bnd h
 obtain ⟨b8, h⟩ := gn h
 obtain ⟨t2, A5, h⟩ := bnd h
 have H' := Z0.mk h
 clear h
 generalize hv : wrap64 (Int.tdiv 1000000000 (wrap64 (rd l1 j + 1))) = sv at hsc
 go_enter Tryz.func104, Tryz.ntmps104
 go_wp2_with (first
  | ((with_reducible refine gc_ 142 rfl ?_); refine cG rfl ?_; intro w1 hb; replace h0 := Kd.C_below h0 hb; replace h1 := Kd.C_below h1 hb; replace HB := fB HB hb; clear hb; obtain ⟨ad, rfl, hx, p, q⟩ := atI h1 j)
  | ((with_reducible refine gd_ 44 rfl ?_); refine litR (Kd.int .i64) [sv] [.int .i64 sv] (Kd.reps_scalar [sv]) ?_; intro v2 w2 hb HS; rw [← hsc.out] at HS; obtain ⟨As, cs, rfl, hcs, hs⟩ := Kd.R_reads HS.out; replace h0 := Kd.C_below h0 hb; replace h1 := Kd.C_below h1 hb; replace HB := fB HB hb; clear hb)
  | ((with_reducible refine gd_ 47 rfl ?_); refine cX rfl ?_; rintro _ w3 ⟨v3, rfl, HU, hb⟩; refine ⟨_, rfl, ?_⟩; replace HU := Z0.mk HU; have HC := Z0.mk hb; clear hb)
  | ((with_reducible refine gate_builtin (b := .append) rfl ?_); at_builtin; refine apG 0 HU HC rfl b8 ?_; intro v4 w4 HU' HC' _; have hb2 := HC'.out)
  | ((with_reducible refine gd_ 52 rfl ?_); refine cX rfl ?_; rintro _ w5 ⟨v5, rfl, HV, hb⟩; refine ⟨_, rfl, ?_⟩; replace HV := Z0.mk (Kd.R_mono (ok' := fun k => True ∧ some k ≠ v4.ownBlock) (Kd.R_lower (Kd.R_new' HV (Kd.R_lt HU'.out)) (below_size hb2)) (fun _ h => h)); replace HU' := Z0.mk (Kd.R_below HU'.out hb); replace HC' := Z0.mk (below_step HC'.out hb); clear hb))
 clear HU HC hb2 HS hx p q
 go_loopg [9] k (fun kq v9 w' => ∃ xs : List Int, Z0 (bIdivide.l0 kq l0 sc xs t2 = some (r1, r2)) ∧ kq ≤ k ∧ Z0 (Kd.R (Kd.int .i64) 3 w' w2.heap.size (fun _ => True) v9 xs) ∧ Z0 (Kd.R (Kd.int .i64) 3 w' w2.heap.size (fun k => True ∧ some k ≠ v9.ownBlock) v5 t2) ∧ Z0 (Below w2.heap.size w2 w'))
 case atStart => exact ⟨_, H', Nat.le_refl _, HU', HV, HC'⟩
 clear H' HU' HV HC'
 obtain ⟨xs, H, hk, HU, HV, HC⟩ := hrel
 obtain ⟨Au, cu, rfl⟩ := Kd.R_slice HU.out
 cases gk with
 | zero => cases H.out
 | succ k1 =>
 replace H := H.out
 unfold bIdivide.l0 at H
 rcases jd H with ⟨d1, d2, H⟩ | ⟨d1, d2, H⟩
 · have d3 : decide (xs.length ≤ l0.length) = true := decide_eq_true (by omega)
   obtain ⟨d4, H⟩ := gn H
   have H' := Z0.mk H
   clear H
   go_wp2_with ((with_reducible refine gate_builtin (b := .append) rfl ?_); at_builtin; refine apG 0 HU HC rfl d4 ?_; intro v4 w4 HU' HC' hV)
   go_roundg k1
   case measure => omega
   case rel => exact ⟨_, H', by omega, HU', hV _ _ HV.out, HC'⟩
 have d3 : decide (xs.length ≤ l0.length) = false := decide_eq_false (by omega)
 have hn := i64_w ((xs.length : Int) - (t2.length : Int))
 generalize hn2 : wrap64 ((xs.length : Int) - (t2.length : Int)) = n at H hn
 obtain ⟨n0, -, H⟩ := gd H
 obtain ⟨n1, -, H⟩ := gd H
 obtain ⟨ys, hys⟩ : ∃ ys : List Int, Z0 (ys = List.replicate n.toNat 0) := ⟨_, ⟨rfl⟩⟩
 rw [← hys.out] at H
 have H' := Z0.mk H
 clear H
 obtain ⟨Av, cv, rfl⟩ := Kd.R_slice HV.out
 have nV := HV.out.1
 go_wp2_with (refine mkI n ys rfl n0 n1 hys ?_; intro Ao co w6 hb HO)
 have nO : ∀ k, (Value.slice Au xs.length cu).ownBlock = some k ∨ (Value.slice Av t2.length cv).ownBlock = some k → some k ≠ (Value.slice Ao ys.length co).ownBlock := fun k hk e => by
  have h1 := Kd.R_base HO.out k e.symm
  rcases hk with hk | hk
  · have := Kd.R_lt HU.out k hk; omega
  · have := Kd.R_lt HV.out k hk; omega
 replace HO := Z0.mk (Kd.R_lower HO.out (below_size HC.out))
 replace HU := Z0.mk (Kd.R_below HU.out hb)
 replace HV := Z0.mk (Kd.R_mono (ok' := fun _ => True) (Kd.R_below HV.out hb) (fun _ _ => trivial))
 replace HC := Z0.mk (below_step HC.out hb)
 clear hb
 generalize xs.length = lu at *
 go_loopg [13] k1 (fun kq v13 w' => ∃ (xs zs : List Int) (j : Int), v13 = .int .i64 j ∧ Z0 (bIdivide.l1 kq sc xs t2 zs j = some (r1, r2)) ∧ kq ≤ k1 ∧ Z0 (Kd.R (Kd.int .i64) 3 w' w2.heap.size (fun _ => True) (.slice Au lu cu) xs) ∧ Z0 (Kd.R (Kd.int .i64) 3 w' w2.heap.size (fun _ => True) (.slice Av t2.length cv) t2) ∧ Z0 (Kd.R (Kd.int .i64) 3 w' w2.heap.size (fun _ => True) (.slice Ao ys.length co) zs) ∧ Z0 (Below w2.heap.size w2 w'))
 case atStart => exact ⟨xs, ys, wrap64 (n - 1), by first | rfl | exact congrArg _ (by clear hn hn2 H' HU HV HO HC nO; unfold wrap64; omega), H', Nat.le_refl _, HU, HV, HO, HC⟩
 clear H' HU HV HO HC n0 n1 hys hn d1 d2 d3
 obtain ⟨xs, zs, j, rfl, H, hk1, HU, HV, HO, HC⟩ := hrel
 obtain ⟨hlu, hcu, CU⟩ := Kd.R_reads' HU.out
 obtain ⟨hlo, -, -⟩ := Kd.R_reads' HO.out
 cases gk with
 | zero => cases H.out
 | succ k2 =>
 replace H := H.out
 unfold bIdivide.l1 at H
 rcases jh H with ⟨-, f1, H⟩ | ⟨-, f1, H⟩
 · obtain ⟨⟨q, us⟩, A6, H⟩ := bnd H
   dsimp only at H
   obtain ⟨f2, f3, H⟩ := gd H
   obtain ⟨f4, f5, H⟩ := gd H
   have H' := Z0.mk H
   clear H
   obtain ⟨-, e2⟩ := bIestimateW.ok A6.out
   obtain ⟨g, cg, e, -⟩ := Kd.R_form HU.out (by omega)
   injection e with e _ ec
   subst e
   subst ec
   subst hlu
   have f6 : j < (ys.length : Int) := by omega
   have hmE := Kd.C_max CU
   have s1 : IntKind.i64.wrap (j + (t2.length : Int)) = j + (t2.length : Int) := by rw [IntKind.wrap_i64]; omega
   have s2 : IntKind.i64.wrap (j + (t2.length : Int) + 1) = j + (t2.length : Int) + 1 := by rw [IntKind.wrap_i64]; omega
   have s3 : decide (j ≤ j + (t2.length : Int) + 1) = true := decide_eq_true (by omega)
   have s4 : decide (j + (t2.length : Int) + 1 ≤ (cu : Int)) = true := decide_eq_true (by omega)
   have s5 : j + (t2.length : Int) + 1 ≤ (cu : Int) := by omega
   have s6 : j ≤ j + (t2.length : Int) + 1 := by omega
   have s7 : (j + (t2.length : Int) + 1).toNat - j.toNat = t2.length + 1 := by omega
   have nG : ∀ k, (Value.slice Av t2.length cv).ownBlock = some k → some k ≠ some g := fun k hk => (nV k hk).2
   have HVg : Z0 (∀ W', wr.grownBy W' (some g) → Kd.C (Kd.int .i64) W' Av t2.length t2) := ⟨fun W' hg => (Kd.R_reads' (Rg HV hg nG).out).2.2⟩
   clear hmE CU hlo
   go_wp2_with (first
    | ((with_reducible refine gc_ 145 rfl ?_); refine cX rfl ?_; rintro _ w3 ⟨rfl, HU', hg⟩; refine ⟨_, rfl, ?_⟩; replace HV := Rg HV hg nG; have HO' := Rg HO hg (fun k hk e => nO g (.inl rfl) (e.symm.trans hk.symm)); have HC' := Z0.mk (Below.grown HC.out hg (below_size HC.out) (fun k e => by cases e; exact Kd.R_base HU.out g rfl)); obtain ⟨h, rfl, c3, c4, c5, c6⟩ := ownF HO' j f2 f6)
    | ((with_reducible refine gate_store rfl ?_); refine stI j q HO' HC' rfl ?_; intro w4 HO'' hg2 HC''))
   go_roundg k2
   case measure => omega
   case rel => exact ⟨us, _, _, rfl, H', by omega, Rg HU' hg2 (fun k hk => nO k (.inl hk)), Rg HV hg2 (fun k hk => nO k (.inr hk)), HO'', HC''⟩
 · obtain ⟨x3, A6, H⟩ := bnd H
   obtain ⟨f2, f3, H⟩ := gd H
   obtain ⟨⟨rr, _⟩, A7, H⟩ := bnd H
   obtain ⟨o3, A8, H⟩ := bnd H
   cases H
   clear hlu hlo hcu CU
   go_wp2
   have hd := (Below.refl wr.heap.size wr).drew
   obtain ⟨ad2, rfl, hx, p, q⟩ := atI (Kd.C_below (Kd.C_below hs HC.out) hd) 0 (by omega) f2
   rw [show ((0 : Int)).toNat = 0 from rfl, Addr.add_zero'] at hx
   have f4 : (0 < sc.length) = True := eq_true (by omega)
   replace HU := Z0.mk (Kd.R_below HU.out hd)
   replace HO := Z0.mk (Kd.R_below HO.out hd)
   replace HC := Z0.mk (below_step HC.out hd)
   go_region_held3 (fun w' => w'.cell? ad2 = some (.int .i64 (rd sc 0)))
    (exact hx)
    (first
    | (go_at_call 144; refine (trimR k2 _ HU A6.out).mono ?_; rintro _ w7 ⟨rfl, HU', hb⟩; replace hx := pw_cell_below hb hx; replace HO := Z0.mk (Kd.R_below HO.out hb); replace HC := Z0.mk (below_step HC.out hb); obtain ⟨-, hc7, C7⟩ := Kd.R_reads' HU'.out)
    | (go_at_call 143; refine (bIshort.calls k2 _ _ x3 (rd sc 0) _ _ _ C7 hc7 A7.out).mono ?_; rintro _ w8 ⟨v8, rfl, hs8, hb⟩; replace hx := pw_cell_below hb hx; replace HO := Z0.mk (Kd.R_below HO.out hb); replace HC := Z0.mk (below_step HC.out hb); obtain ⟨A8', c8, rfl, hc8, C8⟩ := Kd.R_reads hs8))
   all_goals go_wp2_with ((with_reducible refine gc_ 144 rfl ?_); refine cX rfl ?_; rintro _ w9 ⟨rfl, HO', hb⟩; refine ⟨_, rfl, ?_⟩; replace C8 := Kd.C_below C8 hb; replace HC := Z0.mk (below_step HC.out hb))
   go_ret2
   obtain ⟨-, hc9, C9⟩ := Kd.R_reads' HO'.out
   exact ⟨_, _, _, _, rfl, cq C9, hc9, cq C8, hc8, below_step HB.out (below_step HC.out (by first | exact Below.refl _ _ | exact bq))⟩
instance : Ctr 104 (type_of% @divC) := ⟨@divC, _, Tryz.func104, by kernel_rfl, rfl⟩
instance : Ctr 139 (type_of% @bIplus.calls) := ⟨@bIplus.calls, _, Tryz.func139, by kernel_rfl, rfl⟩
instance : Ctr 140 (type_of% @bIminus.calls) := ⟨@bIminus.calls, _, Tryz.func140, by kernel_rfl, rfl⟩
theorem comC (k : Nat) (A0 : Option Addr) (c0 : Nat) (l0 : List Int) (A1 : Option Addr) (c1 : Nat) (l1 r : List Int) (w : World) (h0 : Kd.C (Kd.int .i64) w A0 l0.length l0) (hc0 : l0.length ≤ c0) (h1 : Kd.C (Kd.int .i64) w A1 l1.length l1) (hc1 : l1.length ≤ c1) (h : bIcommon.f k l0 l1 = some r) :
  Calls Tryz.prog 105 #[.slice A0 l0.length c0, .slice A1 l1.length c1] w fun e w' => ∃ X d, e = .returned (.slice X r.length d) ∧ Kd.C (Kd.int .i64) w' X r.length r ∧ r.length ≤ d ∧ Below w.heap.size w w' := by
 have HB := Z0.mk (Below.refl w.heap.size w)
 unfold bIcommon.f at h
 have H' := Z0.mk h
 clear h
 go_enter Tryz.func105, Tryz.ntmps105
 go_wp2
 go_loopg [0, 1] k (fun kq v0 v1 w' => ∃ A0 c0 x0 A1 c1 x1, v0 = .slice A0 (List.length x0) c0 ∧ v1 = .slice A1 (List.length x1) c1 ∧ Z0 (bIcommon.l0 kq x0 x1 = some r) ∧ kq ≤ k ∧ Kd.C (Kd.int .i64) w' A0 x0.length x0 ∧ x0.length ≤ c0 ∧ Kd.C (Kd.int .i64) w' A1 x1.length x1 ∧ x1.length ≤ c1 ∧ Z0 (Below w.heap.size w w'))
 case atStart => exact ⟨_, _, _, _, _, _, rfl, rfl, H', Nat.le_refl _, cq h0, hc0, cq h1, hc1, ⟨bqs⟩⟩
 clear H' h0 hc0 h1 hc1 HB
 obtain ⟨A0, c0, x0, A1, c1, x1, rfl, rfl, H, hk, h0, hc0, h1, hc1, HB⟩ := hrel
 cases gk with
 | zero => cases H.out
 | succ k1 =>
 replace H := H.out
 unfold bIcommon.l0 at H
 rcases jg H with ⟨b1, b2, H⟩ | ⟨b1, b2, H⟩
 · have b3 : decide (0 < x1.length) = true := decide_eq_true (by omega)
   obtain ⟨⟨q, y⟩, A3, H⟩ := bnd H
   have H' := Z0.mk H
   clear H
   go_wp2_with (refine cX rfl ?_; rintro _ w2 ⟨X1, d1, X2, d2, rfl, -, -, C2, e2, hb⟩; refine ⟨_, rfl, ?_⟩; replace h1 := Kd.C_below h1 hb; replace HB := fB HB hb; clear hb)
   go_roundg k1
   case measure => omega
   case rel => exact ⟨_, _, _, _, _, _, rfl, rfl, H', by omega, cq h1, hc1, cq C2, e2, ⟨bqs⟩⟩
 · have b3 : decide (0 < x1.length) = false := decide_eq_false (by omega)
   cases H
   go_wp2
   go_ret
   exact ⟨_, _, rfl, cq h0, hc0, bqs⟩
theorem quoC (k : Nat) (a0 : Bool) (A0 : Option Addr) (c0 : Nat) (l0 : List Int) (a1 : Bool) (A1 : Option Addr) (c1 : Nat) (l1 : List Int) (r1 : Bool) (r2 : List Int) (r3 : Bool) (r4 : List Int) (w : World) (h0 : Kd.C (Kd.int .i64) w A0 l0.length l0) (hc0 : l0.length ≤ c0) (h1 : Kd.C (Kd.int .i64) w A1 l1.length l1) (hc1 : l1.length ≤ c1) (h : bIquotient.f k a0 l0 a1 l1 = some (r1, r2, r3, r4)) :
  Calls Tryz.prog 100 #[.agg #[.bool a0, .slice A0 l0.length c0], .agg #[.bool a1, .slice A1 l1.length c1]] w fun e w' => ∃ X1 d1 X2 d2, e = .returned (.tuple #[.agg #[.bool r1, .slice X1 r2.length d1], .agg #[.bool r3, .slice X2 r4.length d2]]) ∧ Kd.C (Kd.int .i64) w' X1 r2.length r2 ∧ r2.length ≤ d1 ∧ Kd.C (Kd.int .i64) w' X2 r4.length r4 ∧ r4.length ≤ d2 ∧ Below w.heap.size w w' := by
 have HB := Z0.mk (Below.refl w.heap.size w)
 have hu := Tryz.underlying122
 unfold bIquotient.f at h
 obtain ⟨⟨q, r⟩, A3, h⟩ := bnd h
 dsimp only at h
 go_enter Tryz.func100, Tryz.ntmps100
 go_upto_region 2 with (first
  | ((with_reducible refine gd_ 2 rfl ?_); refine bxE 2 #[.bool a0, .slice A0 l0.length c0] 122 ?_; intro g0 hg w0 hbox hb; have B0 := Z0.mk hbox; replace HB := fB HB hb; clear hb hbox hg)
  | ((with_reducible refine gd_ 3 rfl ?_); refine bxE 3 #[.bool a1, .slice A1 l1.length c1] 122 ?_; intro g1 hg w1 hbox hb; have B1 := Z0.mk hbox; replace B0 := fk B0 hb; replace HB := fB HB hb; clear hb hbox hg)
  | ((with_reducible refine gd_ 4 rfl ?_); refine bxE 4 #[.bool false, .slice none 0 0] 122 ?_; intro g2 hg w2 hbox hb; have B2 := Z0.mk hbox; have G2 := fE HB hg; have N12 := fl B1 hg; replace B0 := fk B0 hb; replace B1 := fk B1 hb; replace HB := fB HB hb; clear hb hbox hg)
  | ((with_reducible refine gd_ 5 rfl ?_); refine bxE 5 #[.bool false, .slice none 0 0] 122 ?_; intro g3 hg w3 hbox hb; have B3 := Z0.mk hbox; have G3 := fE HB hg; have N13 := fl B1 hg; have NB := fl B2 hg; replace B0 := fk B0 hb; replace B1 := fk B1 hb; replace B2 := fk B2 hb; replace HB := fB HB hb; clear hb hbox hg; obtain ⟨p0, p1, -, -⟩ := b2 B0; obtain ⟨q0, q1, -, -⟩ := b2 B1; have hB := HB.out)
  | (refine cX rfl ?_; rintro _ w5 ⟨X1, d1, X2, d2, rfl, C1, e1, C2, e2, hb⟩; refine ⟨_, rfl, ?_⟩; replace B0 := fk B0 hb; replace B1 := fk B1 hb; replace B2 := fk B2 hb; replace B3 := fk B3 hb; replace HB := fB HB hb; clear hb hB p0 p1 q0 q1; obtain ⟨p0, p1, -, -⟩ := b2 B0; obtain ⟨q0, q1, -, -⟩ := b2 B1))
 have hB := HB.out
 have nb := NB.out
 have nb' := nb.symm
 have n12 := N12.out
 have n13 := N13.out
 replace h1 := Kd.C_below h1 HB.out
 rcases jn h with ⟨e, h⟩ | ⟨e, h⟩
 rotate_left
 replace e := Bool.eq_false_iff.mpr e
 rcases jg h with ⟨b1, b3, h⟩ | ⟨b1, b3, h⟩
 have b4 : decide (0 < r.length) = true := decide_eq_true (by omega)
 rotate_left
 have b4 : decide (0 < r.length) = false := decide_eq_false (by omega)
 all_goals (
  first
  | (have Z := bnd h
     obtain ⟨q', A4, h⟩ := Z
     obtain ⟨r', A5, h⟩ := bnd h
     go_wp2
     go_region_held3 (fun w' => w'.cell? ⟨g1, 1, none⟩ = some (.slice A1 l1.length c1))
      (exact (blk_cell (by repeat (first | exact B1.out | refine blk_drew ?_ | refine blk_alloc ?_ _)) 1).trans rfl)
      (first
      | (go_at_call 139; refine (bIplus.calls k _ _ q _ _ [1] q' _ (cq C1) e1 (by first | exact litI _ _ _ | exact Kd.C_drew (litI _ _ _)) (Nat.le_refl _) A4.out).mono ?_; rintro _ w7 ⟨v7, rfl, ho, hb⟩; obtain ⟨X1, d1, rfl, e1, C1⟩ := Kd.R_reads ho; replace C2 := Kd.C_below (cq C2) hb; replace h1 := Kd.C_below (cq h1) hb; replace B1 := fk B1 hb; replace B2 := fk B2 hb; replace B3 := fk B3 hb; replace HB := fB HB hb; clear hb ho)
      | (go_at_call 140; refine (bIminus.calls k _ _ l1 _ _ r r' _ (cq h1) hc1 (cq C2) e2 A5.out).mono ?_; rintro _ w8 ⟨v8, rfl, ho, hb⟩; obtain ⟨X2, d2, rfl, e2, C2⟩ := Kd.R_reads ho; replace C1 := Kd.C_below (cq C1) hb; replace B1 := fk B1 hb; replace B2 := fk B2 hb; replace B3 := fk B3 hb; replace HB := fB HB hb; clear hb ho)))
  | skip
  cases h
  go_wp2
  try clear p0 p1 q0 q1
  obtain ⟨q0, q1, -, -⟩ := b2 B1
  obtain ⟨z0, z1, s0, s1⟩ := b2 B2
  obtain ⟨z2, z3, s2, s3⟩ := b2 B3
  go_region_held3 (fun w' => w'.cell? ⟨g1, 0, none⟩ = some (.bool a1))
   (first | exact q0 | exact keep2 q0 n12 | exact keep2 (W := World.setCell _ _ _) (keep2 q0 n12) n13)
   (fail)
  all_goals go_wp2
  refine bodyPost_ret (results_cc rfl _ _ g2 g3 122 122 _ _ (0, 0) (0, 0) _ _ rfl (blk_drew (put22 nb B2.out B3.out).1) hu rfl (by kernel_rfl) rfl (blk_drew (put22 nb B2.out B3.out).2) hu rfl (by kernel_rfl)) rfl ?_
  exact ⟨_, _, _, _, rfl, Kd.C_drew (C_set4 C1 nb B2.out B3.out), e1, Kd.C_drew (C_set4 C2 nb B2.out B3.out), e2, below_drew (below_set (below_set (below_set (below_set HB.out G2.out) G2.out) G3.out) G3.out)⟩)
instance : Ctr 100 (type_of% @quoC) := ⟨@quoC, _, Tryz.func100, by kernel_rfl, rfl⟩
instance : Ctr 105 (type_of% @comC) := ⟨@comC, _, Tryz.func105, by kernel_rfl, rfl⟩
instance : Ctr 98 (type_of% @bInumber_text.calls) := ⟨@bInumber_text.calls, _, Tryz.func98, by kernel_rfl, rfl⟩
theorem bIdivided.calls (k : Nat) (a0 : ByteArray) (a1 : ByteArray) (r1 : ByteArray) (r2 : ByteArray) (r3 : Int) (w : World) (hL : LaidW w) (h : bIdivided.f k a0 a1 = some (r1, r2, r3)) :
  Calls Tryz.prog 111 #[.string a0, .string a1] w fun e w' => e = .returned (.tuple #[.string r1, .string r2, .int .i64 r3]) ∧ Below w.heap.size w w' := by
 have HB := Z0.mk (Below.refl w.heap.size w)
 unfold bIdivided.f at h
 obtain ⟨⟨n0, l0, n1, l1, e⟩, A1, h⟩ := bnd h
 dsimp only at h
 have hu := Tryz.underlying122
 go_enter Tryz.func111, Tryz.ntmps111
 go_upto_region 2 with (refine cX rfl ?_; rintro _ w1 ⟨X0, c0, X1, c1, rfl, C0, hc0, C1, hc1, hb⟩; refine ⟨_, rfl, ?_⟩; replace HB := fB HB hb; clear hb)
 refine al2 ?_
 intro W hb B0 B1
 replace HB := fB HB hb
 replace C0 := Kd.C_below C0 hb
 replace C1 := Kd.C_below C1 hb
 clear hb
 obtain ⟨p0, p1, -, -⟩ := b2 B0
 obtain ⟨q0, q1, -, -⟩ := b2 B1
 rcases je h with ⟨-, e0, e1, h⟩ | ⟨-, e0, e1, h⟩
 · rcases je h with ⟨e2, e3, e4, h⟩ | ⟨e2, e3, e4, h⟩
   · cases h
     have e5 : (l1.length == 0) = true := by rw [beq_iff_eq]; omega
     go_wp2
     refine bodyPost_ret (results_list (rs := [.tmp 4, .tmp 5, .tmp 6]) rfl (by simp) (.tmp (.tmp (.tmp .nil)))) rfl ?_
     exact ⟨rfl, HB.out⟩
   obtain ⟨⟨s0, m0, s1, m1⟩, A2, h⟩ := bnd h
   obtain ⟨t0, A3, h⟩ := bnd h
   obtain ⟨t1, A4, h⟩ := bnd h
   cases h
   have e5 : (l1.length == 0) = false := by rw [beq_eq_false_iff_ne]; omega
   go_upto_region 7 with ((with_reducible refine gc_ 100 rfl ?_); refine cX rfl ?_; rintro _ w2 ⟨Y0, f0, Y1, f1, rfl, D0, g0, D1, g1, hb⟩; refine ⟨_, rfl, ?_⟩; replace HB := fB HB hb; clear hb)
   clear B0 B1 p0 p1 q0 q1 C0 C1
   refine al2 ?_
   intro W2 hb B0 B1
   have hd := hb.drew
   replace B0 := Z0.mk (blk_drew B0.out)
   replace B1 := Z0.mk (blk_drew B1.out)
   replace HB := fB HB hd
   replace D0 := Kd.C_below D0 hd
   replace D1 := Kd.C_below D1 hd
   go_region_held3 (fun w' => w'.cell? ⟨w2.heap.size, 0, none⟩ = some (.bool s0) ∧ w'.cell? ⟨w2.heap.size, 1, none⟩ = some (.slice Y0 m0.length f0) ∧ w'.cell? ⟨w2.heap.size + 1, 0, none⟩ = some (.bool s1) ∧ w'.cell? ⟨w2.heap.size + 1, 1, none⟩ = some (.slice Y1 m1.length f1))
    (exact ⟨(b2 B0).1, (b2 B0).2.1, (b2 B1).1, (b2 B1).2.1⟩)
    (first
    | ((with_reducible refine atC ?_); refine cC ?_; intro w' hb'; replace D0 := Kd.C_below D0 hb'; replace D1 := Kd.C_below D1 hb'; replace B0 := fk B0 hb'; replace B1 := fk B1 hb'; replace HB := fB HB hb'))
   all_goals go_wp2
   refine bodyPost_ret (results_list (rs := [.tmp 4, .tmp 5, .tmp 6]) rfl (by simp) (.tmp (.tmp (.tmp .nil)))) rfl ?_
   exact ⟨rfl, HB.out⟩
 · cases h
   go_wp2
   refine bodyPost_ret (results_list (rs := [.tmp 4, .tmp 5, .tmp 6]) rfl (by simp) (.tmp (.tmp (.tmp .nil)))) rfl ?_
   exact ⟨rfl, HB.out⟩
theorem bIGcd.calls (k : Nat) (a0 : ByteArray) (a1 : ByteArray) (r1 : ByteArray) (r2 : Int) (w : World) (hL : LaidW w) (h : bIGcd.f k a0 a1 = some (r1, r2)) :
  Calls Tryz.prog 48 #[.string a0, .string a1] w fun e w' => e = .returned (.tuple #[.string r1, .int .i64 r2]) ∧ Below w.heap.size w w' := by
 have HB := Z0.mk (Below.refl w.heap.size w)
 unfold bIGcd.f at h
 obtain ⟨⟨n0, l0, n1, l1, e⟩, A1, h⟩ := bnd h
 dsimp only at h
 have hu := Tryz.underlying122
 go_enter Tryz.func48, Tryz.ntmps48
 go_upto_region 2 with (refine cX rfl ?_; rintro _ w1 ⟨X0, c0, X1, c1, rfl, C0, hc0, C1, hc1, hb⟩; refine ⟨_, rfl, ?_⟩; replace HB := fB HB hb; clear hb)
 refine al2 ?_
 intro W hb B0 B1
 replace HB := fB HB hb
 replace C0 := Kd.C_below C0 hb
 replace C1 := Kd.C_below C1 hb
 clear hb
 obtain ⟨p0, p1, -, -⟩ := b2 B0
 obtain ⟨q0, q1, -, -⟩ := b2 B1
 rcases je h with ⟨-, e0, e1, h⟩ | ⟨-, e0, e1, h⟩
 · obtain ⟨l, A2, h⟩ := bnd h
   obtain ⟨s, A3, h⟩ := bnd h
   cases h
   go_wp2_with (first
    | ((with_reducible refine gc_ 105 rfl ?_); refine cX rfl ?_; rintro _ w2 ⟨X, c, rfl, C, hc, hb⟩; refine ⟨_, rfl, ?_⟩; replace HB := fB HB hb; clear hb)
    | (refine cG rfl ?_; intro w' hb; replace HB := fB HB hb; clear hb))
   go_ret2
   exact ⟨rfl, HB.out⟩
 · cases h
   go_wp2
   go_ret2
   exact ⟨rfl, HB.out⟩
set_option linter.unusedVariables false
attribute [local go_sem] max2_int min2_int max_two min_two max_three min_three max_four min_four
set_option linter.unusedSimpArgs false
theorem rAdigits.calls (a0 : ByteArray) (r : Int) (w : World) (h : rAdigits.f a0 = some r) :
  Calls Tryz.prog 155 #[.string a0] w fun e w' => e = .returned (.int .i64 r) ∧ Drawn0 w w' := by
 have H := h
 clear h
 unfold rAdigits.f at H
 obtain ⟨t192, A2, H⟩ := bnd H
 obtain rfl := Option.some.inj H
 go_enter Tryz.func155, Tryz.ntmps155
 go_wp2_with (first | ((with_reducible refine gc_ 110 rfl ?_); refine goD (some 4) Tryz.func110 #[.string a0, .string (⟨#[45]⟩ : ByteArray)] (strings_TrimPrefix.calls a0 (⟨#[45]⟩ : ByteArray) t192 _ A2.out) ?_; intro nd))
 go_ret
 exact finD
theorem rAcommon.calls (k : Nat) (a0 : ByteArray) (a1 : ByteArray) (r : Bool) (w : World) (hL : LaidW w) (h : rAcommon.f k a0 a1 = some r) :
  Calls Tryz.prog 154 #[.string a0, .string a1] w fun e w' => e = .returned (.bool r) ∧ Below w.heap.size w w' := by
 have HB := Z0.mk (Below.refl w.heap.size w)
 have H := h
 clear h
 unfold rAcommon.f at H
 have HC3 := Z0.mk H
 clear H
 go_enter Tryz.func154, Tryz.ntmps154
 go_upto_region 1 with (fail)
 go_cut [16] (fun v16 wc => ∃ (kq : Nat) (x16_2 : Bool), v16 = .bool x16_2 ∧ Z0 (rAcommon.j0 kq a0 a1 x16_2 = some r) ∧ Z0 (kq ≤ k) ∧ Z0 (Below w.heap.size w wc))
 case first =>
  have H := HC3.out
  clear HC3
  obtain ⟨t201, A4, H⟩ := bnd H
  rcases jd H with ⟨-, c5b0, H⟩ | ⟨-, c5b0, H⟩
  ·(first | rw [c5b0] | (simp only [i64_w, i32_w]; rw [c5b0]) | skip)
   obtain ⟨t202, A6, H⟩ := bnd H
   have H' := Z0.mk H
   clear H
   go_wp2_with (first | ((with_reducible refine gc_ 155 rfl ?_); refine goD (some 10) Tryz.func155 #[.string a0] (rAdigits.calls a0 t201 _ A4.out) ?_; intro nd) | (go_at_call 155; (with_reducible refine (rAdigits.calls a1 t202 _ A6.out).mono ?_); rintro e w' ⟨rfl, ⟨nd, rfl⟩⟩))
   go_meet
   case rel => exact ⟨_, (decide (t202 ≤ 4096)), fs, H', ⟨by first | omega | exact Nat.le_refl _⟩, ⟨bqs⟩⟩
  (first | rw [c5b0] | (simp only [i64_w, i32_w]; rw [c5b0]) | skip)
  have H' := Z0.mk H
  clear H
  go_wp2_with (first | ((with_reducible refine gc_ 155 rfl ?_); refine goD (some 10) Tryz.func155 #[.string a0] (rAdigits.calls a0 t201 _ A4.out) ?_; intro nd))
  go_meet
  case rel => exact ⟨_, (false), fs, H', ⟨by first | omega | exact Nat.le_refl _⟩, ⟨bqs⟩⟩
 case rest =>
  clear HC3
  try clear p2
  try clear c5
  try clear c5b0
  obtain ⟨kq, x16_2, rfl, HA, HJ2, HB⟩ := hcut
  cases kq with
  | zero => exact absurd HA.out (by simp [rAcommon.j0])
  | succ kj2 =>
   have H := HA.out
   clear HA
   simp only [rAcommon.j0] at H
   by_cases c7 : x16_2 = true
   ·subst c7
    have H1 : ((bIGcd.f kj2 a0 a1).bind fun bt203 => (if bt203.2 = 0 then (some (bt203.1.toList != ([49] : List UInt8))) else (some true))) = some r := by rw [if_pos rfl] at H; exact H
    clear H
    have H := H1
    clear H1
    obtain ⟨⟨t203, t204⟩, A8, H⟩ := bnd H
    try dsimp only at H
    rcases je H with ⟨-, c9b0, c9b1, H⟩ | ⟨c9, c9b0, c9b1, H⟩
    ·obtain rfl := Option.some.inj H
     go_wp2_with (first | ((with_reducible refine gc_ 48 rfl ?_); refine goB (some 20) Tryz.func48 #[.string a0, .string a1] bq (bIGcd.calls kj2 a0 a1 t203 t204 _ (hL.below bq) A8.out) ?_; clear HB; intro w10 HB))
     go_ret
     exact finE
    obtain rfl := Option.some.inj H
    go_wp2_with (first | ((with_reducible refine gc_ 48 rfl ?_); refine goB (some 20) Tryz.func48 #[.string a0, .string a1] bq (bIGcd.calls kj2 a0 a1 t203 t204 _ (hL.below bq) A8.out) ?_; clear HB; intro w11 HB))
    go_ret
    exact finE
   replace c7 := Bool.eq_false_iff.mpr c7
   subst c7
   exact absurd (if_neg (show ¬ (false = true) by decide) ▸ H) (by simp)
theorem rAsplit.calls (a0 : ByteArray) (r1 : ByteArray) (r2 : ByteArray) (w : World) (h : rAsplit.f a0 = some (r1, r2)) :
  Calls Tryz.prog 120 #[.string a0] w fun e w' => e = .returned (.tuple #[.string r1, .string r2]) ∧ Below w.heap.size w w' := by
 have HB := Z0.mk (Below.refl w.heap.size w)
 have H := h
 clear h
 unfold rAsplit.f at H
 obtain ⟨t101, A2, H⟩ := bnd H
 rcases jh H with ⟨-, c3b0, H⟩ | ⟨-, c3b0, H⟩
 ·obtain ⟨-, c4b0, c4b1, H⟩ := gt H
  obtain ⟨-, c5b0, c5b1, H⟩ := gt H
  obtain ⟨ji6, hji6⟩ : ∃ j_ : Int, (wrap64 (t101 + 1)) = j_ := ⟨_, rfl⟩
  replace H : (if 0 ≤ (ji6) then (if (ji6) ≤ (a0.size : Int) then (some (a0.extract 0 (t101 : Int).toNat, a0.extract ((ji6) : Int).toNat a0.size)) else (none)) else (none)) = some (r1, r2) := by first | (rw [hji6] at H; exact H) | (simp only [hji6] at H ⊢; exact H)
  (try rw [hji6] at A2)
  have hji6w : (IntKind.i64.wrap (t101 + 1)) = ji6 := (i64_w _).trans hji6
  obtain ⟨-, c7b0, c7b1, H⟩ := gt H
  obtain ⟨-, c8b0, c8b1, H⟩ := gt H
  simp only [Option.some.injEq, Prod.mk.injEq] at H
  obtain ⟨rfl, rfl⟩ := H
  go_enter Tryz.func120, Tryz.ntmps120
  go_wp2_with (first | (go_at_call 157; (with_reducible refine (strings_IndexByte.calls a0 47 t101 _ A2.out).mono ?_); rintro e w9 ⟨rfl, hb⟩; replace HB := fB HB hb; clear hb) | (go_quiet (first | (go_at_call 157; (with_reducible refine (strings_IndexByte.calls a0 47 t101 _ A2.out).mono ?_); rintro e w9 ⟨rfl, hb⟩; replace HB := fB HB hb; clear hb))))
  go_ret2
  exact ⟨by first | rfl | (simp [errW_none, errW_some] <;> rfl) | (simp only [← hji6]; first | rfl | (simp [errW_none, errW_some] <;> rfl)) | (simp [*, errW_none, errW_some] <;> rfl), bqs⟩
 simp only [Option.some.injEq, Prod.mk.injEq] at H
 obtain ⟨rfl, rfl⟩ := H
 go_enter Tryz.func120, Tryz.ntmps120
 go_wp2_with (first | (go_at_call 157; (with_reducible refine (strings_IndexByte.calls a0 47 t101 _ A2.out).mono ?_); rintro e w10 ⟨rfl, hb⟩; replace HB := fB HB hb; clear hb) | (go_quiet (first | (go_at_call 157; (with_reducible refine (strings_IndexByte.calls a0 47 t101 _ A2.out).mono ?_); rintro e w10 ⟨rfl, hb⟩; replace HB := fB HB hb; clear hb))))
 go_ret2
 exact finE
theorem rACheck.calls (k : Nat) (a0 : ByteArray) (r : Int) (w : World) (hL : LaidW w) (h : rACheck.f k a0 = some r) :
  Calls Tryz.prog 117 #[.string a0] w fun e w' => e = .returned (.int .i64 r) ∧ Below w.heap.size w w' := by
 have HB := Z0.mk (Below.refl w.heap.size w)
 have H := h
 clear h
 unfold rACheck.f at H
 obtain ⟨⟨t215, t216⟩, A2, H⟩ := bnd H
 try dsimp only at H
 have HC3 := Z0.mk H
 clear H
 go_enter Tryz.func117, Tryz.ntmps117
 go_upto_region 2 with (first | ((with_reducible refine gc_ 120 rfl ?_); refine goB (some 7) Tryz.func120 #[.string a0] bq (rAsplit.calls a0 t215 t216 _ A2.out) ?_; clear HB; intro w4 HB))
 (try simp only [Act.put, List.setIfInBounds_toArray, List.set_cons_zero, List.set_cons_succ])
 go_cut [17] (fun v17 wc => ∃ (kq : Nat) (x17_2 : Bool), v17 = .bool x17_2 ∧ Z0 (rACheck.j0 kq a0 t215 t216 x17_2 = some r) ∧ Z0 (kq ≤ k) ∧ Z0 (Below w.heap.size w wc))
 case first =>
  have H := HC3.out
  clear HC3
  obtain ⟨t217, A5, H⟩ := bnd H
  by_cases c6 : t217 = true
  ·subst c6
   have H1 : ((rAcanonical.f t216).bind fun t218 => (rACheck.j0 k a0 t215 t216 (!t218))) = some r := by rw [if_pos rfl] at H; exact H
   clear H
   have H := H1
   clear H1
   obtain ⟨t218, A7, H⟩ := bnd H
   have H' := Z0.mk H
   clear H
   go_wp2_with (first | ((with_reducible refine gc_ 152 rfl ?_); refine goB (some 11) Tryz.func152 #[.string t215] bq (rAcanonical.calls t215 true _ A5.out) ?_; clear HB; intro w8 HB) | (go_at_call 152; (with_reducible refine (rAcanonical.calls t216 t218 _ A7.out).mono ?_); rintro e w9 ⟨rfl, hb⟩; replace HB := fB HB hb; clear hb))
   go_meet
   case rel => exact ⟨_, (!t218), fs, H', ⟨by first | omega | exact Nat.le_refl _⟩, ⟨bqs⟩⟩
  replace c6 := Bool.eq_false_iff.mpr c6
  subst c6
  have H1 : (rACheck.j0 k a0 t215 t216 true) = some r := by rw [if_neg (show ¬ (false = true) by decide)] at H; exact H
  clear H
  have H := H1
  clear H1
  have H' := Z0.mk H
  clear H
  go_wp2_with (first | ((with_reducible refine gc_ 152 rfl ?_); refine goB (some 11) Tryz.func152 #[.string t215] bq (rAcanonical.calls t215 false _ A5.out) ?_; clear HB; intro w10 HB))
  go_meet
  case rel => exact ⟨_, (true), fs, H', ⟨by first | omega | exact Nat.le_refl _⟩, ⟨bqs⟩⟩
 case rest =>
  clear HC3
  try clear c2
  try clear p2
  try clear c6
  try clear c7
  obtain ⟨kq, x17_2, rfl, HA, HJ2, HB⟩ := hcut
  cases kq with
  | zero => exact absurd HA.out (by simp [rACheck.j0])
  | succ kj2 =>
   have H := HA.out
   clear HA
   simp only [rACheck.j0] at H
   by_cases c11 : x17_2 = true
   ·subst c11
    have H1 : (some 3) = some r := by rw [if_pos rfl] at H; exact H
    clear H
    have H := H1
    clear H1
    obtain rfl := Option.some.inj H
    go_wp2
    go_ret
    exact finE
   replace c11 := Bool.eq_false_iff.mpr c11
   subst c11
   have H1 : ((strings_Contains.f a0 (⟨#[47]⟩ : ByteArray)).bind fun t219 => (if t219 = true then (if t216.toList = ([48] : List UInt8) then (rACheck.j1 kj2 t215 t216 true) else (if t216.toList = ([49] : List UInt8) then (rACheck.j1 kj2 t215 t216 true) else (if 0 < (t216.size : Int) then (if (bt t216 0) = 45 then (rACheck.j1 kj2 t215 t216 true) else ((rAcommon.f kj2 t215 t216).bind fun t220 => (rACheck.j1 kj2 t215 t216 t220))) else (none)))) else (rACheck.j1 kj2 t215 t216 false))) = some r := by rw [if_neg (show ¬ (false = true) by decide)] at H; exact H
   clear H
   have H := H1
   clear H1
   have HC12 := Z0.mk H
   clear H
   go_upto_region 4 with (fail)
   go_cut [37] (fun v37 wc => ∃ (kq : Nat) (x37_11 : Bool), v37 = .bool x37_11 ∧ Z0 (rACheck.j1 kq t215 t216 x37_11 = some r) ∧ Z0 (kq ≤ kj2) ∧ Z0 (Below w.heap.size w wc))
   case first =>
    have H := HC12.out
    clear HC12
    obtain ⟨t219, A13, H⟩ := bnd H
    by_cases c14 : t219 = true
    ·subst c14
     have H1 : (if t216.toList = ([48] : List UInt8) then (rACheck.j1 kj2 t215 t216 true) else (if t216.toList = ([49] : List UInt8) then (rACheck.j1 kj2 t215 t216 true) else (if 0 < (t216.size : Int) then (if (bt t216 0) = 45 then (rACheck.j1 kj2 t215 t216 true) else ((rAcommon.f kj2 t215 t216).bind fun t220 => (rACheck.j1 kj2 t215 t216 t220))) else (none)))) = some r := by rw [if_pos rfl] at H; exact H
     clear H
     have H := H1
     clear H1
     rcases je H with ⟨-, c15b0, c15b1, H⟩ | ⟨c15, c15b0, c15b1, H⟩
     ·(first | rw [c15b0] | (simp only [i64_w, i32_w]; rw [c15b0]) | skip)
      have H' := Z0.mk H
      clear H
      go_wp2_with (first | ((with_reducible refine gc_ 153 rfl ?_); refine goB (some 19) Tryz.func153 #[.string a0, .string (⟨#[47]⟩ : ByteArray)] bq (strings_Contains.calls a0 (⟨#[47]⟩ : ByteArray) true _ A13.out) ?_; clear HB; intro w16 HB))
      go_meet
      case rel => exact ⟨_, (true), fs, H', ⟨by have := HJ2.out; first | omega | exact Nat.le_refl _⟩, ⟨bqs⟩⟩
     (first | rw [c15b0] | (simp only [i64_w, i32_w]; rw [c15b0]) | skip)
     rcases je H with ⟨-, c17b0, c17b1, H⟩ | ⟨c17, c17b0, c17b1, H⟩
     ·have H' := Z0.mk H
      clear H
      go_wp2_with (first | ((with_reducible refine gc_ 153 rfl ?_); refine goB (some 19) Tryz.func153 #[.string a0, .string (⟨#[47]⟩ : ByteArray)] bq (strings_Contains.calls a0 (⟨#[47]⟩ : ByteArray) true _ A13.out) ?_; clear HB; intro w18 HB))
      go_meet
      case rel => exact ⟨_, (true), fs, H', ⟨by have := HJ2.out; first | omega | exact Nat.le_refl _⟩, ⟨bqs⟩⟩
     obtain ⟨c19, c19b0, H⟩ := gd H
     have c19b1 : decide (0 < t216.size) = true := decide_eq_true (by omega)
     clear c19
     rcases je H with ⟨-, c21b0, c21b1, H⟩ | ⟨c21, c21b0, c21b1, H⟩
     ·have H' := Z0.mk H
      clear H
      go_wp2_with (first | ((with_reducible refine gc_ 153 rfl ?_); refine gL 19 Tryz.func153 (strings_Contains.calls _ _ _ _ A13.out) ?_; rintro _ w22 ⟨rfl, hb⟩; refine ⟨_, rfl, ?_⟩; replace HB := fB HB hb; clear hb; have p20 : 0 ≤ (0 : Int) := (by omega); have q20 : 0 < t216.size := (by have : (0 : Int) < (t216.size : Int) := od; omega); have hx20 : ∀ h : 0 < t216.size, ((t216[0]'h).toNat : Int) = bt t216 0 := bt_at t216 0; clear p20; have qi20 : (0 < (t216.size : Int)) = True := eq_true od; replace q20 := eq_true q20))
      go_meet
      case rel => exact ⟨_, (true), fs, H', ⟨by have := HJ2.out; first | omega | exact Nat.le_refl _⟩, ⟨bqs⟩⟩
     obtain ⟨t220, A23, H⟩ := bnd H
     have H' := Z0.mk H
     clear H
     go_wp2_with (first | ((with_reducible refine gc_ 153 rfl ?_); refine gL 19 Tryz.func153 (strings_Contains.calls _ _ _ _ A13.out) ?_; rintro _ w24 ⟨rfl, hb⟩; refine ⟨_, rfl, ?_⟩; replace HB := fB HB hb; clear hb; have p20 : 0 ≤ (0 : Int) := (by omega); have q20 : 0 < t216.size := (by have : (0 : Int) < (t216.size : Int) := od; omega); have hx20 : ∀ h : 0 < t216.size, ((t216[0]'h).toNat : Int) = bt t216 0 := bt_at t216 0; clear p20; have qi20 : (0 < (t216.size : Int)) = True := eq_true od; replace q20 := eq_true q20) | (go_at_call 154; (with_reducible refine (rAcommon.calls kj2 t215 t216 t220 _ ?side1 A23.out).mono ?_); (case side1 => exact LaidW.below hL bqs); rintro e w25 ⟨rfl, hb⟩; replace HB := fB HB hb; clear hb))
     go_meet
     case rel => exact ⟨_, (t220), fs, H', ⟨by have := HJ2.out; first | omega | exact Nat.le_refl _⟩, ⟨bqs⟩⟩
    replace c14 := Bool.eq_false_iff.mpr c14
    subst c14
    have H1 : (rACheck.j1 kj2 t215 t216 false) = some r := by rw [if_neg (show ¬ (false = true) by decide)] at H; exact H
    clear H
    have H := H1
    clear H1
    have H' := Z0.mk H
    clear H
    go_wp2_with (first | ((with_reducible refine gc_ 153 rfl ?_); refine goB (some 19) Tryz.func153 #[.string a0, .string (⟨#[47]⟩ : ByteArray)] bq (strings_Contains.calls a0 (⟨#[47]⟩ : ByteArray) false _ A13.out) ?_; clear HB; intro w26 HB))
    go_meet
    case rel => exact ⟨_, (false), fs, H', ⟨by have := HJ2.out; first | omega | exact Nat.le_refl _⟩, ⟨bqs⟩⟩
   case rest =>
    clear HC12
    try clear c1
    try clear c2
    try clear p2
    try clear q2
    try clear hx2
    try clear qi2
    try clear c6
    try clear c7
    try clear c11
    try clear c14
    try clear c15
    try clear c15b0
    try clear c15b1
    try clear c17
    try clear c17b0
    try clear c17b1
    try clear c19
    try clear c19b0
    try clear c19b1
    try clear p20
    try clear q20
    try clear hx20
    try clear qi20
    try clear c21
    try clear c21b0
    try clear c21b1
    try clear p2
    try clear p20
    try clear q20
    obtain ⟨kq, x37_11, rfl, HA, HJ11, HB⟩ := hcut
    cases kq with
    | zero => exact absurd HA.out (by simp [rACheck.j1])
    | succ kj11 =>
     have H := HA.out
     clear HA
     simp only [rACheck.j1] at H
     by_cases c27 : x37_11 = true
     ·subst c27
      have H1 : (some 3) = some r := by rw [if_pos rfl] at H; exact H
      clear H
      have H := H1
      clear H1
      obtain rfl := Option.some.inj H
      go_wp2
      go_ret
      exact finE
     replace c27 := Bool.eq_false_iff.mpr c27
     subst c27
     have H1 : ((rAdigits.f t215).bind fun t221 => (if t221 > 4096 then (some 10) else ((rAdigits.f t216).bind fun t222 => (if t222 > 4096 then (some 10) else (some 0))))) = some r := by rw [if_neg (show ¬ (false = true) by decide)] at H; exact H
     clear H
     have H := H1
     clear H1
     obtain ⟨t221, A28, H⟩ := bnd H
     rcases jg H with ⟨-, c29b0, H⟩ | ⟨-, c29b0, H⟩
     ·obtain rfl := Option.some.inj H
      go_wp2_with (first | ((with_reducible refine gc_ 155 rfl ?_); refine goD (some 39) Tryz.func155 #[.string t215] (rAdigits.calls t215 t221 _ A28.out) ?_; intro nd))
      go_ret
      exact finE
     obtain ⟨t222, A30, H⟩ := bnd H
     rcases jg H with ⟨-, c31b0, H⟩ | ⟨-, c31b0, H⟩
     ·obtain rfl := Option.some.inj H
      go_wp2_with (first | ((with_reducible refine gc_ 155 rfl ?_); refine goD (some 39) Tryz.func155 #[.string t215] (rAdigits.calls t215 t221 _ A28.out) ?_; intro nd) | (go_at_call 155; (with_reducible refine (rAdigits.calls t216 t222 _ A30.out).mono ?_); rintro e w' ⟨rfl, ⟨nd, rfl⟩⟩))
      go_ret
      exact finE
     obtain rfl := Option.some.inj H
     go_wp2_with (first | ((with_reducible refine gc_ 155 rfl ?_); refine goD (some 39) Tryz.func155 #[.string t215] (rAdigits.calls t215 t221 _ A28.out) ?_; intro nd) | (go_at_call 155; (with_reducible refine (rAdigits.calls t216 t222 _ A30.out).mono ?_); rintro e w' ⟨rfl, ⟨nd, rfl⟩⟩))
     go_ret
     exact finE
theorem rAnewPair.calls (k : Nat) (a0 : ByteArray) (a1 : ByteArray) (r1 : ByteArray) (r2 : ByteArray) (r3 : ByteArray) (r4 : ByteArray) (r5 : Int) (w : World) (hL : LaidW w) (h : rAnewPair.f k a0 a1 = some (r1, r2, r3, r4, r5)) :
  Calls Tryz.prog 121 #[.string a0, .string a1] w fun e w' => e = .returned (.tuple #[.agg #[.string r1, .string r2, .string r3, .string r4], .int .i64 r5]) ∧ Below w.heap.size w w' := by
 have hu95 := Tryz.underlying145
 have HB := Z0.mk (Below.refl w.heap.size w)
 have H := h
 clear h
 unfold rAnewPair.f at H
 obtain ⟨t367, A3, H⟩ := bnd H
 rcases je H with ⟨-, c4b0, c4b1, H⟩ | ⟨c4, c4b0, c4b1, H⟩
 ·obtain ⟨t368, A5, H⟩ := bnd H
  rcases je H with ⟨-, c6b0, c6b1, H⟩ | ⟨c6, c6b0, c6b1, H⟩
  ·obtain ⟨⟨t369, t370⟩, A7, H⟩ := bnd H
   try dsimp only at H
   obtain ⟨⟨t371, t372⟩, A8, H⟩ := bnd H
   try dsimp only at H
   simp only [Option.some.injEq, Prod.mk.injEq] at H
   obtain ⟨rfl, rfl, rfl, rfl, rfl⟩ := H
   go_enter Tryz.func121, Tryz.ntmps121
   go_wp2_with (first | ((with_reducible refine gd_ 4 rfl ?_); refine bxE 4 #[.string (⟨#[]⟩ : ByteArray), .string (⟨#[]⟩ : ByteArray), .string (⟨#[]⟩ : ByteArray), .string (⟨#[]⟩ : ByteArray)] 145 ?_; intro gb366 hg w9 hbox hb; have BK366 := Z0.mk hbox; have GW366 := fE HB hg; have GE366 := fE HB hg; replace HB := fB HB hb; clear hb hbox hg) | ((with_reducible refine gc_ 117 rfl ?_); refine gL 13 Tryz.func117 (rACheck.calls k a0 t367 _ ?side1 A3.out) ?_; (case side1 => exact LaidW.below hL bqs); rintro _ w10 ⟨rfl, hb⟩; refine ⟨_, rfl, ?_⟩; replace BK366 := fk BK366 hb; replace HB := fB HB hb; clear hb) | ((with_reducible refine gc_ 117 rfl ?_); refine gL 19 Tryz.func117 (rACheck.calls k a1 t368 _ ?side1 A5.out) ?_; (case side1 => exact LaidW.below hL bqs); rintro _ w11 ⟨rfl, hb⟩; refine ⟨_, rfl, ?_⟩; replace BK366 := fk BK366 hb; replace HB := fB HB hb; clear hb) | ((with_reducible refine gc_ 120 rfl ?_); refine gL 26 Tryz.func120 (rAsplit.calls _ _ _ _ A7.out) ?_; rintro _ w12 ⟨rfl, hb⟩; refine ⟨_, rfl, ?_⟩; replace BK366 := fk BK366 hb; replace HB := fB HB hb; clear hb) | ((with_reducible refine gc_ 120 rfl ?_); refine gL 31 Tryz.func120 (rAsplit.calls _ _ _ _ A8.out) ?_; rintro _ w13 ⟨rfl, hb⟩; refine ⟨_, rfl, ?_⟩; replace BK366 := fk BK366 hb; replace HB := fB HB hb; clear hb; obtain ⟨hcz14_0, hcz14_1, hcz14_2, hcz14_3, hfz14_0, hfz14_1, hfz14_2, hfz14_3⟩ := b4 BK366))
   refine bodyPost_ret (results_ct rfl _ _ gb366 145 #[.string t369, .string t370, .string t371, .string t372] (0, 0) _ rfl (by (with_reducible repeat (first | refine blk_drewN ?_ _ | refine blk_drew ?_ | refine blk_alloc ?_ _)); refine blk_put (cs := #[.string t369, .string t370, .string t371, .string (⟨#[]⟩ : ByteArray)]) ?_ 3 _ rfl; (with_reducible repeat (first | refine blk_drewN ?_ _ | refine blk_drew ?_ | refine blk_alloc ?_ _)); refine blk_put (cs := #[.string t369, .string t370, .string (⟨#[]⟩ : ByteArray), .string (⟨#[]⟩ : ByteArray)]) ?_ 2 _ rfl; (with_reducible repeat (first | refine blk_drewN ?_ _ | refine blk_drew ?_ | refine blk_alloc ?_ _)); refine blk_put (cs := #[.string t369, .string (⟨#[]⟩ : ByteArray), .string (⟨#[]⟩ : ByteArray), .string (⟨#[]⟩ : ByteArray)]) ?_ 1 _ rfl; (with_reducible repeat (first | refine blk_drewN ?_ _ | refine blk_drew ?_ | refine blk_alloc ?_ _)); refine blk_put (cs := #[.string (⟨#[]⟩ : ByteArray), .string (⟨#[]⟩ : ByteArray), .string (⟨#[]⟩ : ByteArray), .string (⟨#[]⟩ : ByteArray)]) ?_ 0 _ rfl; (with_reducible repeat (first | refine blk_drewN ?_ _ | refine blk_drew ?_ | refine blk_alloc ?_ _)); exact BK366.out) Tryz.underlying145 rfl (by kernel_rfl)) rfl ?_
   exact finE
  simp only [Option.some.injEq, Prod.mk.injEq] at H
  obtain ⟨rfl, rfl, rfl, rfl, rfl⟩ := H
  go_enter Tryz.func121, Tryz.ntmps121
  go_wp2_with (first | ((with_reducible refine gd_ 4 rfl ?_); refine bxE 4 #[.string (⟨#[]⟩ : ByteArray), .string (⟨#[]⟩ : ByteArray), .string (⟨#[]⟩ : ByteArray), .string (⟨#[]⟩ : ByteArray)] 145 ?_; intro gb366 hg w15 hbox hb; have BK366 := Z0.mk hbox; have GW366 := fE HB hg; have GE366 := fE HB hg; replace HB := fB HB hb; clear hb hbox hg) | ((with_reducible refine gc_ 117 rfl ?_); refine gL 13 Tryz.func117 (rACheck.calls k a0 t367 _ ?side1 A3.out) ?_; (case side1 => exact LaidW.below hL bqs); rintro _ w16 ⟨rfl, hb⟩; refine ⟨_, rfl, ?_⟩; replace BK366 := fk BK366 hb; replace HB := fB HB hb; clear hb) | ((with_reducible refine gc_ 117 rfl ?_); refine gL 19 Tryz.func117 (rACheck.calls k a1 t368 _ ?side1 A5.out) ?_; (case side1 => exact LaidW.below hL bqs); rintro _ w17 ⟨rfl, hb⟩; refine ⟨_, rfl, ?_⟩; replace BK366 := fk BK366 hb; replace HB := fB HB hb; clear hb; obtain ⟨hcz18_0, hcz18_1, hcz18_2, hcz18_3, hfz18_0, hfz18_1, hfz18_2, hfz18_3⟩ := b4 BK366))
  refine bodyPost_ret (results_ct rfl _ _ gb366 145 #[.string (⟨#[]⟩ : ByteArray), .string (⟨#[]⟩ : ByteArray), .string (⟨#[]⟩ : ByteArray), .string (⟨#[]⟩ : ByteArray)] (0, 0) _ rfl (by (with_reducible repeat (first | refine blk_drewN ?_ _ | refine blk_drew ?_ | refine blk_alloc ?_ _)); refine blk_put (cs := #[.string (⟨#[]⟩ : ByteArray), .string (⟨#[]⟩ : ByteArray), .string (⟨#[]⟩ : ByteArray), .string (⟨#[]⟩ : ByteArray)]) ?_ 3 _ rfl; (with_reducible repeat (first | refine blk_drewN ?_ _ | refine blk_drew ?_ | refine blk_alloc ?_ _)); refine blk_put (cs := #[.string (⟨#[]⟩ : ByteArray), .string (⟨#[]⟩ : ByteArray), .string (⟨#[]⟩ : ByteArray), .string (⟨#[]⟩ : ByteArray)]) ?_ 2 _ rfl; (with_reducible repeat (first | refine blk_drewN ?_ _ | refine blk_drew ?_ | refine blk_alloc ?_ _)); refine blk_put (cs := #[.string (⟨#[]⟩ : ByteArray), .string (⟨#[]⟩ : ByteArray), .string (⟨#[]⟩ : ByteArray), .string (⟨#[]⟩ : ByteArray)]) ?_ 1 _ rfl; (with_reducible repeat (first | refine blk_drewN ?_ _ | refine blk_drew ?_ | refine blk_alloc ?_ _)); refine blk_put (cs := #[.string (⟨#[]⟩ : ByteArray), .string (⟨#[]⟩ : ByteArray), .string (⟨#[]⟩ : ByteArray), .string (⟨#[]⟩ : ByteArray)]) ?_ 0 _ rfl; (with_reducible repeat (first | refine blk_drewN ?_ _ | refine blk_drew ?_ | refine blk_alloc ?_ _)); exact BK366.out) Tryz.underlying145 rfl (by kernel_rfl)) rfl ?_
  exact finE
 simp only [Option.some.injEq, Prod.mk.injEq] at H
 obtain ⟨rfl, rfl, rfl, rfl, rfl⟩ := H
 go_enter Tryz.func121, Tryz.ntmps121
 go_wp2_with (first | ((with_reducible refine gd_ 4 rfl ?_); refine bxE 4 #[.string (⟨#[]⟩ : ByteArray), .string (⟨#[]⟩ : ByteArray), .string (⟨#[]⟩ : ByteArray), .string (⟨#[]⟩ : ByteArray)] 145 ?_; intro gb366 hg w19 hbox hb; have BK366 := Z0.mk hbox; have GW366 := fE HB hg; have GE366 := fE HB hg; replace HB := fB HB hb; clear hb hbox hg) | ((with_reducible refine gc_ 117 rfl ?_); refine gL 13 Tryz.func117 (rACheck.calls k a0 t367 _ ?side1 A3.out) ?_; (case side1 => exact LaidW.below hL bqs); rintro _ w20 ⟨rfl, hb⟩; refine ⟨_, rfl, ?_⟩; replace BK366 := fk BK366 hb; replace HB := fB HB hb; clear hb; obtain ⟨hcz21_0, hcz21_1, hcz21_2, hcz21_3, hfz21_0, hfz21_1, hfz21_2, hfz21_3⟩ := b4 BK366))
 refine bodyPost_ret (results_ct rfl _ _ gb366 145 #[.string (⟨#[]⟩ : ByteArray), .string (⟨#[]⟩ : ByteArray), .string (⟨#[]⟩ : ByteArray), .string (⟨#[]⟩ : ByteArray)] (0, 0) _ rfl (by (with_reducible repeat (first | refine blk_drewN ?_ _ | refine blk_drew ?_ | refine blk_alloc ?_ _)); refine blk_put (cs := #[.string (⟨#[]⟩ : ByteArray), .string (⟨#[]⟩ : ByteArray), .string (⟨#[]⟩ : ByteArray), .string (⟨#[]⟩ : ByteArray)]) ?_ 3 _ rfl; (with_reducible repeat (first | refine blk_drewN ?_ _ | refine blk_drew ?_ | refine blk_alloc ?_ _)); refine blk_put (cs := #[.string (⟨#[]⟩ : ByteArray), .string (⟨#[]⟩ : ByteArray), .string (⟨#[]⟩ : ByteArray), .string (⟨#[]⟩ : ByteArray)]) ?_ 2 _ rfl; (with_reducible repeat (first | refine blk_drewN ?_ _ | refine blk_drew ?_ | refine blk_alloc ?_ _)); refine blk_put (cs := #[.string (⟨#[]⟩ : ByteArray), .string (⟨#[]⟩ : ByteArray), .string (⟨#[]⟩ : ByteArray), .string (⟨#[]⟩ : ByteArray)]) ?_ 1 _ rfl; (with_reducible repeat (first | refine blk_drewN ?_ _ | refine blk_drew ?_ | refine blk_alloc ?_ _)); refine blk_put (cs := #[.string (⟨#[]⟩ : ByteArray), .string (⟨#[]⟩ : ByteArray), .string (⟨#[]⟩ : ByteArray), .string (⟨#[]⟩ : ByteArray)]) ?_ 0 _ rfl; (with_reducible repeat (first | refine blk_drewN ?_ _ | refine blk_drew ?_ | refine blk_alloc ?_ _)); exact BK366.out) Tryz.underlying145 rfl (by kernel_rfl)) rfl ?_
 exact finE
theorem bINeg.calls (k : Nat) (a0 : ByteArray) (r1 : ByteArray) (r2 : Int) (w : World) (hL : LaidW w) (h : bINeg.f k a0 = some (r1, r2)) :
  Calls Tryz.prog 156 #[.string a0] w fun e w' => e = .returned (.tuple #[.string r1, .int .i64 r2]) ∧ Below w.heap.size w w' := by
 have HB := Z0.mk (Below.refl w.heap.size w)
 have H := h
 clear h
 unfold bINeg.f at H
 obtain ⟨⟨t321, t322⟩, A2, H⟩ := bnd H
 try dsimp only at H
 simp only [Option.some.injEq, Prod.mk.injEq] at H
 obtain ⟨rfl, rfl⟩ := H
 go_enter Tryz.func156, Tryz.ntmps156
 go_wp2_with (first | ((with_reducible refine gc_ 159 rfl ?_); refine goB (some 5) Tryz.func159 #[.string (⟨#[48]⟩ : ByteArray), .string a0] bq (bISub.calls k (⟨#[48]⟩ : ByteArray) a0 t321 t322 _ (hL.below bq) A2.out) ?_; clear HB; intro w3 HB))
 go_ret2
 exact finE
theorem bIQuo.calls (k : Nat) (a0 : ByteArray) (a1 : ByteArray) (r1 : ByteArray) (r2 : Int) (w : World) (hL : LaidW w) (h : bIQuo.f k a0 a1 = some (r1, r2)) :
  Calls Tryz.prog 53 #[.string a0, .string a1] w fun e w' => e = .returned (.tuple #[.string r1, .int .i64 r2]) ∧ Below w.heap.size w w' := by
 have HB := Z0.mk (Below.refl w.heap.size w)
 have H := h
 clear h
 unfold bIQuo.f at H
 obtain ⟨⟨t283, t284, t285⟩, A3, H⟩ := bnd H
 try dsimp only at H
 simp only [Option.some.injEq, Prod.mk.injEq] at H
 obtain ⟨rfl, rfl⟩ := H
 go_enter Tryz.func53, Tryz.ntmps53
 go_wp2_with (first | ((with_reducible refine gc_ 111 rfl ?_); refine goB (some 12) Tryz.func111 #[.string a0, .string a1] bq (bIdivided.calls k a0 a1 t283 t284 t285 _ (hL.below bq) A3.out) ?_; clear HB; intro w4 HB))
 go_ret2
 exact finE
theorem bISign.calls (k : Nat) (a0 : ByteArray) (r1 : Int) (r2 : Int) (w : World) (h : bISign.f k a0 = some (r1, r2)) :
  Calls Tryz.prog 55 #[.string a0] w fun e w' => e = .returned (.tuple #[.int .i64 r1, .int .i64 r2]) ∧ Below w.heap.size w w' := by
 have HB := Z0.mk (Below.refl w.heap.size w)
 have H := h
 clear h
 unfold bISign.f at H
 obtain ⟨⟨t350, t351⟩, A2, H⟩ := bnd H
 try dsimp only at H
 simp only [Option.some.injEq, Prod.mk.injEq] at H
 obtain ⟨rfl, rfl⟩ := H
 go_enter Tryz.func55, Tryz.ntmps55
 go_wp2_with (first | ((with_reducible refine gc_ 56 rfl ?_); refine goB (some 5) Tryz.func56 #[.string a0, .string (⟨#[48]⟩ : ByteArray)] bq (bICompare.calls k a0 (⟨#[48]⟩ : ByteArray) t350 t351 _ A2.out) ?_; clear HB; intro w3 HB))
 go_ret2
 exact finE
end Go.Proofs.YtihbebbabjklkaaGreatDoor.PA
