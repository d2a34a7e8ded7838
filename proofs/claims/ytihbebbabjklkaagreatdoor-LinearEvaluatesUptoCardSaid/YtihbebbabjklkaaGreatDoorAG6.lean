import Derived.Test.YtihbebbabjklkaaGreatDoorAG5
import Derived.Test.YtihbebbabjklkaaGreatDoorAG1
import Derived.Test.YtihbebbabjklkaaGreatDoorAG2
import Derived.RangeFuncCalls
set_option maxHeartbeats 8000000
set_option maxRecDepth 100000
set_option linter.unusedVariables false
namespace Go.Proofs.YtihbebbabjklkaaGreatDoor.PA
set_option linter.unusedVariables false
set_option linter.unusedSimpArgs false
open Go.RowKit Go.Shelf Go.Proofs.WWords Go.Proofs.WLast Go.Proofs.WMore
theorem loadVar_cell {P : Program} {t : TypeId} {a : Addr} {w : World} {v : Value} (ha : (isAgg t).run P w = .ok false w) (h : w.cell? a = some v) : (loadVar t a).run P w = .ok v w := by
 unfold loadVar
 rw [Sem.run_bind, ha]
 simp [Result.andThen, h, go_sem]
theorem agg_rat (w : World) : (isAgg 23).run Tryz.prog w = .ok false w := by kernel_rfl
theorem agg_err (w : World) : (isAgg 28).run Tryz.prog w = .ok false w := by kernel_rfl
theorem results_ss {fn : Func} {p q : Tmp} {ty ty' : TypeId} (h : fn.results = #[.cell p ty, .cell q ty']) (tmps : Array Value) (w : World) (g g' : Nat) (v v' : Value)
  (h1 : ∀ w, (isAgg ty).run Tryz.prog w = .ok false w) (h2 : ∀ w, (isAgg ty').run Tryz.prog w = .ok false w)
  (hp : tmps.getD p undef = .pointer (some ⟨g, 0, none⟩)) (hq : tmps.getD q undef = .pointer (some ⟨g', 0, none⟩)) (hv : w.cell? ⟨g, 0, none⟩ = some v) (hv' : w.cell? ⟨g', 0, none⟩ = some v') :
  (results fn tmps).run Tryz.prog w = .ok (.tuple #[v, v']) w := by
 have e1 : tmps[p]?.getD undef = .pointer (some ⟨g, 0, none⟩) := by simpa using hp
 have e2 : tmps[q]?.getD undef = .pointer (some ⟨g', 0, none⟩) := by simpa using hq
 simp [results, h, e1, e2, asAddr, loadVar_cell (h1 w) hv, loadVar_cell (h2 w) hv']
noncomputable def evalL (l : List ByteArray) (s : ByteArray) (pt : List ByteArray) : Rat := (List.zipWith (· * ·) (l.map rv) (pt.map rv)).foldl (· + ·) (rv s)
noncomputable def evalS (l : List ByteArray) (s : ByteArray) (pt : List ByteArray) : ByteArray × Int :=
 if chkL l s = 0 then (if pt.length = l.length then (if numsC pt = 0 then (if ndR (evalL l s pt) ≤ 100 then (Sv.rtxt (evalL l s pt), 0) else (⟨#[]⟩, 10)) else (⟨#[]⟩, numsC pt)) else (⟨#[]⟩, 15)) else (⟨#[]⟩, chkL l s)
noncomputable def sumT {l : List ByteArray} (pt : List ByteArray) (c : Rat) (pre : List (Ix l)) : Rat := pre.foldl (fun m x => m + rv l[x.1] * rv (pt.getD x.1 ByteArray.empty)) c
theorem sumT_snoc {l : List ByteArray} (pt : List ByteArray) (c : Rat) (pre : List (Ix l)) (x : Ix l) : sumT pt c (pre ++ [x]) = sumT pt c pre + rv l[x.1] * rv (pt.getD x.1 ByteArray.empty) := by unfold sumT; rw [List.foldl_append]; rfl
theorem rv_zero : rv ⟨#[48]⟩ = 0 := by rw [← r0]; exact rv_rtxt 0
theorem sumT_take (l pt : List ByteArray) (c : Rat) (h : pt.length = l.length) (k : Nat) (hk : k ≤ l.length) : sumT pt c (tmL l k) = ((List.zipWith (· * ·) (l.map rv) (pt.map rv)).take k).foldl (· + ·) c := by
 induction k with
 | zero => rfl
 | succ k ih =>
  have h1 : k < l.length := by omega
  have h2 : k < (List.zipWith (· * ·) (l.map rv) (pt.map rv)).length := by simp [h]; omega
  rw [List.take_succ_eq_append_getElem h2, List.foldl_append, ← ih (by omega)]
  have h3 : k < pt.length := by omega
  have e : (List.zipWith (· * ·) (l.map rv) (pt.map rv))[k] = rv l[k] * rv pt[k] := by simp
  rw [e]
  by_cases hz : l[k] = ⟨#[48]⟩
  · rw [tmL_zero h1 hz, hz, rv_zero, Rat.zero_mul]
    show _ = sumT pt c (tmL l k) + 0
    rw [Rat.add_zero]
  · rw [tmL_succ h1 hz, sumT_snoc]
    show sumT pt c (tmL l k) + rv l[k] * rv (pt.getD k ByteArray.empty) = _
    rw [List.getD_eq_getElem?_getD, List.getElem?_eq_getElem h3]
    rfl
theorem put_ss {W : World} {g g' t t' : Nat} {x y u v : Value} (h : W.heap[g]? = some (.cells #[x] t (0, 0))) (h' : W.heap[g']? = some (.cells #[y] t' (0, 0))) (ne : g ≠ g') :
 ((W.setCell ⟨g, 0, none⟩ u).setCell ⟨g', 0, none⟩ v).heap[g]? = some (.cells #[u] t (0, 0)) ∧ ((W.setCell ⟨g, 0, none⟩ u).setCell ⟨g', 0, none⟩ v).heap[g']? = some (.cells #[v] t' (0, 0)) :=
 ⟨blk_far (p := ⟨g', 0, none⟩) (blk_put h 0 _ rfl) ne _, blk_put (blk_far (p := ⟨g, 0, none⟩) h' ne.symm _) 0 _ rfl⟩
theorem c1' {W : World} {g t : Nat} {x : Value} (h : W.heap[g]? = some (.cells #[x] t (0, 0))) : W.cell? ⟨g, 0, none⟩ = some x := (blk_cell h 0).trans rfl
theorem ko_below {W W' : World} (h : Below W.heap.size W W') : KeepsOthers W W' := ⟨h.size, fun k o hk _ => (h.block k (Array.getElem?_eq_some_iff.1 hk).1).trans hk⟩
theorem term_short {l pt : List ByteArray} {s : ByteArray} (hch : chkL l s = 0) (hpl : pt.length = l.length) (hpt : numsC pt = 0) (i : Nat) (hi : i < l.length) : ∃ p q : Rat, l[i] = Sv.rtxt p ∧ pt.getD i ByteArray.empty = Sv.rtxt q ∧ ndR p ≤ 100 ∧ ndR q ≤ 100 := by
 obtain ⟨a1, qs, q, rfl, rfl, a2, a3⟩ := of_chkL hch
 obtain ⟨ps, rfl, b2⟩ := of_numsC hpt
 simp only [List.length_map] at hpl a1
 have hi' : i < qs.length := by simpa using hi
 have hj : i < ps.length := by omega
 refine ⟨qs[i], ps[i], by simp, ?_, a2 _ (List.getElem_mem _), b2 _ (List.getElem_mem _)⟩
 rw [List.getD_eq_getElem?_getD, List.getElem?_map, List.getElem?_eq_getElem hj]
 rfl
theorem add_cases (p t : Rat) (hp : ndR p ≤ 4096) (ht : ndR t ≤ 4096) : ((∃ kk, Z0 (rAAdd.f kk (Sv.rtxt p) (Sv.rtxt t) = some (Sv.rtxt (p + t), 0))) ∧ ndR (p + t) ≤ 4096) ∨ ((∃ kk, Z0 (rAAdd.f kk (Sv.rtxt p) (Sv.rtxt t) = some (⟨#[]⟩, 10))) ∧ 4096 < ndR p + ndR t + 1) := by
 by_cases h : ndR p + ndR t + 1 ≤ 4096
 · have := ndR_add p t
   exact .inl ⟨(addE p t h).as, by omega⟩
 · obtain ⟨kk, A⟩ := (rat_Add p t hp ht).as
   unfold addR at A
   by_cases hc : Sv.nd (p.num * t.den) ≤ 4096 ∧ Sv.nd (t.num * p.den) ≤ 4096 ∧ Sv.nd (p.num * t.den + t.num * p.den) ≤ 4096 ∧ Sv.nd ((p.den : Int) * t.den) ≤ 4096
   · rw [if_pos hc] at A
     have h3 := ndR_divInt (p.num * t.den + t.num * p.den) (p.den * t.den) (den_mul_ne p t)
     rw [add_divInt] at h3
     exact .inl ⟨⟨kk, A⟩, by omega⟩
   · rw [if_neg hc] at A
     exact .inr ⟨⟨kk, A⟩, by omega⟩
theorem over_long {l pt : List ByteArray} {s : ByteArray} (hch : chkL l s = 0) (hpl : pt.length = l.length) (hpt : numsC pt = 0) (k : Nat) (hk : k < l.length) (h : 4096 < ndR (sumT pt (rv s) (tmL l k)) + ndR (rv l[k] * rv (pt.getD k ByteArray.empty)) + 1) : ¬ ndR (evalL l s pt) ≤ 100 := fun hE => by
 have key : ∀ i (hi : i < l.length), ndR (rv l[i] * rv (pt.getD i ByteArray.empty)) ≤ 200 := fun i hi => by
  obtain ⟨p, q, e1, e2, h1, h2⟩ := term_short hch hpl hpt i hi
  rw [e1, e2, rv_rtxt, rv_rtxt]
  have := ndR_mul p q
  omega
 have h1 := key k hk
 have h2 : ndR (sumT pt (rv s) (tmL l k)) ≤ 3316 := by
  rw [sumT_take _ _ _ hpl k (by omega)]
  obtain ⟨a1, qs, q, e1, rfl, a2, a3⟩ := of_chkL hch
  refine part_short _ _ (by simp [hpl]; omega) ?_ (by rw [rv_rtxt]; exact a3) hE k
  intro x hx
  obtain ⟨i, hi, rfl⟩ := List.getElem_of_mem hx
  have hi2 : i < l.length := by rw [List.length_zipWith, List.length_map, List.length_map] at hi; omega
  have hi3 : i < pt.length := by omega
  rw [List.getElem_zipWith]
  have := key i hi2
  rw [List.getD_eq_getElem?_getD, List.getElem?_eq_getElem hi3] at this
  simpa using this
 omega
theorem after4 {w w1 : World} {x y z u : Obj} (hb : Below ((((w.alloc x).alloc y).alloc z).alloc u).heap.size ((((w.alloc x).alloc y).alloc z).alloc u) w1) :
 Below w.heap.size w w1 ∧ Z0 (w1.heap[w.heap.size]? = some x) ∧ Z0 (w1.heap[w.heap.size + 1]? = some y) ∧ Z0 (w1.heap[w.heap.size + 1 + 1]? = some z) ∧ Z0 (w1.heap[w.heap.size + 1 + 1 + 1]? = some u) :=
 al4 (p := fun W => Below W.heap.size W w1 → Below w.heap.size w w1 ∧ Z0 (w1.heap[w.heap.size]? = some x) ∧ Z0 (w1.heap[w.heap.size + 1]? = some y) ∧ Z0 (w1.heap[w.heap.size + 1 + 1]? = some z) ∧ Z0 (w1.heap[w.heap.size + 1 + 1 + 1]? = some u)) (fun W hb B0 B1 B2 B3 h => by
  have k : ∀ {g : Nat} {o : Obj}, W.heap[g]? = some o → w1.heap[g]? = some o := fun hg => (h.block _ (Array.getElem?_eq_some_iff.1 hg).1).trans hg
  exact ⟨below_step hb h, ⟨k B0.out⟩, ⟨k B1.out⟩, ⟨k B2.out⟩, ⟨k B3.out⟩⟩) hb
theorem tmL_last {l : List ByteArray} {p : List (Ix l)} {x : Ix l} : ∀ k, tmL l k = p ++ [x] → p = tmL l x.1 ∧ x.1 < k
 | 0, h => by simp [tmL] at h
 | k + 1, h => by
  unfold tmL at h
  split at h
  · rename_i hk
    split at h
    · have := tmL_last k h; exact ⟨this.1, by omega⟩
    · have h1 := List.append_inj' h rfl
      have h2 : (⟨k, hk⟩ : Ix l) = x := by simpa using h1.2
      subst h2
      exact ⟨h1.1.symm, Nat.lt_succ_self k⟩
  · have := tmL_last k h; exact ⟨this.1, by omega⟩
structure EvI (gs gp g4 g5 : Nat) (B : Option Addr) (n c : Nat) (x : ByteArray) (W : World) : Prop where
  s : W.heap[gs]? = some (.cells #[.string x] 23 (0, 0))
  p : W.heap[gp]? = some (.cells #[.slice B n c] 22 (0, 0))
  r : W.heap[g4]? = some (.cells #[.string ⟨#[]⟩] 23 (0, 0))
  e : W.heap[g5]? = some (.cells #[.int .i64 0] 28 (0, 0))
theorem EvI.own {β : Type} {gs gp g4 g5 : Nat} {B : Option Addr} {n c : Nat} (f : β → ByteArray) : Own fun (s : β) W => EvI gs gp g4 g5 B n c (f s) W := fun s A B row hs hg hr =>
 ⟨own_cells _ _ _ (fun _ => _) s A B row hs.s hg hr, own_cells _ _ _ (fun _ => _) s A B row hs.p hg hr, own_cells _ _ _ (fun _ => _) s A B row hs.r hg hr, own_cells _ _ _ (fun _ => _) s A B row hs.e hg hr⟩
theorem EvI.on {gs gp g4 g5 : Nat} {B : Option Addr} {n c : Nat} {x : ByteArray} {W W' : World} (h : EvI gs gp g4 g5 B n c x W) (hb : Below W.heap.size W W') : EvI gs gp g4 g5 B n c x W' := ⟨blk_below h.s hb, blk_below h.p hb, blk_below h.r hb, blk_below h.e hb⟩
attribute [local go_sem] Oper.semAt_some
theorem Eval_ok (A B : Option Addr) (n c n' c' : Nat) (l pt : List ByteArray) (s : ByteArray) (w : World) (hL : LaidW w) (hC : Z0 (Kd.string.C w A n l)) (hC' : Z0 (Kd.string.C w B n' pt)) (hn : n = l.length) (hn' : n' = pt.length) (hm : n ≤ 1000) (hm' : n' ≤ 1000) (hO : ∀ s ∈ l, Okt s) (hO' : ∀ s ∈ pt, Okt s) (hOs : Okt s) :
  Calls Tryz.prog 21 #[.agg #[.slice A n c, .string s], .slice B n' c'] w fun e w' => e = .returned (.tuple #[.string (evalS l s pt).1, .int .i64 (evalS l s pt).2]) ∧ Below w.heap.size w w' := by
 subst hn hn'
 have HB := Z0.mk (Below.refl w.heap.size w)
 have hu := Tryz.underlying25
 obtain ⟨y, hy⟩ : ∃ x, Z0 (chkL l s = x) := ⟨_, ⟨rfl⟩⟩
 obtain ⟨z, hz⟩ : ∃ x, Z0 (numsC pt = x) := ⟨_, ⟨rfl⟩⟩
 have hev : Z0 (evalS l s pt = if y = 0 then (if pt.length = l.length then (if z = 0 then (if ndR (evalL l s pt) ≤ 100 then (Sv.rtxt (evalL l s pt), 0) else (⟨#[]⟩, 10)) else (⟨#[]⟩, z)) else (⟨#[]⟩, 15)) else (⟨#[]⟩, y)) := ⟨by rw [← hy.out, ← hz.out]; rfl⟩
 by_cases hok : y = 0 ∧ pt.length = l.length ∧ z = 0
 · obtain ⟨rfl, h1, rfl⟩ := hok
   have he := hev.out
   rw [if_pos rfl, if_pos h1, if_pos rfl] at he
   replace he := Z0.mk he
   clear hev
   have F1 : Fence.wide.fn 38 := trivial
   have F2 : Fence.wide.fn 68 := trivial
   have F3 : Fence.wide.fn 72 := trivial
   have F4 : Fence.wide.fn 73 := trivial
   have c1 : ((pt.length : Int) != l.length) = false := by rw [h1]; exact bne_self_eq_false _
   replace h1 := Z0.mk h1
   have mixed : Tryz.prog.follows .mixedOrders = true := by kernel_rfl
   refine (callsIn_wide (n := 4)).1 ?_
   refine callsIn_of_wp_marks Tryz.func21 rfl trivial ?_ rfl
   simp only [Tryz.ntmps21, List.size_toArray, List.length_cons, List.length_nil, Nat.reduceAdd, Nat.reduceSub, Array.replicate_succ, Array.replicate_zero, List.push_toArray, List.append_toArray, List.nil_append, List.cons_append]
   gi_wp2_with (first
    | (gi_at_call 38; refine (callsIn_wide.2 (lCheck_ok A l.length c l s 0 _ (hL.below bqs) ⟨Kd.C_below hC.out bqs⟩ rfl hm hO hOs hy)).mono ?_; rintro _ w1 ⟨rfl, hb⟩; obtain ⟨hb1, B0, B1, B2, B3⟩ := after4 hb; clear hb; obtain ⟨p0, p1, -, -⟩ := b2 B0; have q0 := c1' B1.out)
    | (gi_at_call 72; refine (callsIn_wide.2 (lnumbers_ok B pt.length c' pt 0 _ (hL.below hb1) ⟨Kd.C_below hC'.out hb1⟩ rfl hm' hO' hz)).mono ?_; rintro _ w2 ⟨rfl, hb⟩; replace B0 := Z0.mk (blk_below B0.out hb); replace B1 := Z0.mk (blk_below B1.out hb); replace B2 := Z0.mk (blk_below B2.out hb); replace B3 := Z0.mk (blk_below B3.out hb); replace hb1 := below_step hb1 hb; clear hb p0 p1 q0; obtain ⟨p0, p1, -, -⟩ := b2 B0; have q0 := c1' B1.out; obtain ⟨u0, u1, -, -⟩ := b2 (Z0.mk (blk_alloc B0.out (.cells #[.string s] 23))))
    | (gi_at_call 68; refine (callsIn_wide.2 (terms_ok A l.length c s _)).mono ?_; rintro _ w' ⟨rfl, rfl⟩))
   refine al2 ?_
   intro W hb S0 S1
   have z3 := blk_lt B3.out
   have hbW := below_step hb1 hb
   replace B1 := Z0.mk (blk_below B1.out hb)
   replace B2 := Z0.mk (blk_below B2.out hb)
   replace B3 := Z0.mk (blk_below B3.out hb)
   have z1 := blk_lt S1.out
   have hs1 := below_size hb1
   have hrs : Sv.rtxt (rv s) = s ∧ ndR (rv s) ≤ 100 := by
    obtain ⟨-, _, q, -, rfl, -, h⟩ := of_chkL hy.out
    rw [rv_rtxt]; exact ⟨rfl, h⟩
   clear B0 p0 p1 q0 u0 u1
   refine wpIn_rangeFunc_ownF rfl (by omega) (gf := 115) (lb := #[.pointer (some ⟨w2.heap.size + 1, 0, none⟩)]) rfl trivial (enters_of Tryz.func115 (by kernel_rfl) rfl)
    (terms_stops (4 - 1) (by omega) (w2.heap.size + 1) w.heap.size c A l s (by omega) W S1.out hbW.size (fun W' h => Kd.C_below hC.out (hbW.trans h))) kb_t (kb_b hbW.size z1) (Below.refl _ _) (fun _ => rfl)
    (fun pre W' => (EvI w2.heap.size (w.heap.size + 1) (w.heap.size + 1 + 1) (w.heap.size + 1 + 1 + 1) B pt.length c' (Sv.rtxt (sumT pt (rv s) pre)) W' ∧ ndR (sumT pt (rv s) pre) ≤ 4096) ∧ Below w.heap.size w W')
    (fun cd pre W' => ((cd = .ret ∧ ∃ (p : List (Ix l)) (x : Ix l), pre = p ++ [x] ∧ 4096 < ndR (sumT pt (rv s) p) + ndR (rv l[x.1] * rv (pt.getD x.1 ByteArray.empty)) + 1) ∧ W'.heap[w.heap.size + 1 + 1]? = some (.cells #[.string ⟨#[]⟩] 23 (0, 0)) ∧ W'.heap[w.heap.size + 1 + 1 + 1]? = some (.cells #[.int .i64 10] 28 (0, 0))) ∧ Below w.heap.size w W')
    (OwnFrom.and (OwnFrom.and (Own.from (EvI.own _) _) (ownFrom_pure _ _)) (ownFrom_below (Nat.le_refl _) hbW.size))
    (fun cd => OwnFrom.and (OwnFrom.and (ownFrom_pure _ _) (OwnFrom.and (Own.from (own_cells _ _ _ (fun _ => _)) _) (Own.from (own_cells _ _ _ (fun _ => _)) _))) (ownFrom_below (Nat.le_refl _) hbW.size))
    ⟨⟨⟨by show _ = some (Obj.cells #[.string (Sv.rtxt (rv s))] _ _); rw [hrs.1]; exact S0.out, B1.out, B2.out, B3.out⟩, by show ndR (rv s) ≤ _; omega⟩, hbW⟩
    ?act1 ?assign ?body ?done ?stop
   case assign =>
    intro lp x W K hK
    simp only [encT]
    gi_wp2
    exact hK
   case body =>
    rintro lp pre ⟨i, hi⟩ W2 ⟨⟨hI, hnd⟩, hB⟩ hlen
    obtain ⟨p, q, e1, e2, hp, hq⟩ := term_short hy.out h1.out hz.out i hi
    have G1 : Fence.wide.fn 24 := trivial
    have G2 : Fence.wide.fn 69 := trivial
    have hd2 : 1 ≤ 4 - 1 - 1 := by omega
    obtain ⟨km, A1⟩ := (mulE p q (by omega)).as
    have hpq := ndR_mul p q
    obtain ⟨σ, hσ⟩ : ∃ σ, Z0 (sumT pt (rv s) pre = σ) := ⟨_, ⟨rfl⟩⟩
    rw [hσ.out] at hI hnd
    obtain ⟨ad, rfl, hxx, x1, x2⟩ := asI (Kd.C_below hC'.out hB) (i : Int) (by omega) (by have := h1.out; omega)
    rw [Int.toNat_natCast] at hxx
    have hs : rdOf ByteArray.empty pt (i : Int) = Sv.rtxt q := by rw [← e2]; simp [rdOf]
    rw [hs] at hxx
    clear hs
    simp only [e1]
    have k0 := c1' hI.s
    have k1 := c1' hI.p
    replace hI := Z0.mk hI
    replace hB := Z0.mk hB
    rcases add_cases σ (p * q) hnd (by omega) with ⟨⟨ka, A2⟩, h5⟩ | ⟨⟨ka, A2⟩, h5⟩
    · gi_wp2_with (first
       | (gi_at_call 24; refine (CallsIn.inRound lp (callsIn_wide.2 (rAMul.calls km _ _ _ _ W2 (hL.below hB.out) A1.out))).mono ?_; rintro _ w3 ⟨rfl, hb3⟩; have hI3 := Z0.mk (hI.out.on hb3); have hB3 := Z0.mk (below_step hB.out hb3); clear k0 k1; have k0 := c1' hI3.out.s; have k2 := blk_frozen hI3.out.s 0)
       | (gi_at_call 69; refine (CallsIn.inRound lp (callsIn_wide.2 (rAAdd.calls ka _ _ _ _ w3 (hL.below hB3.out) A2.out))).mono ?_; rintro _ w4 ⟨rfl, hb4⟩; have hI4 := Z0.mk (hI3.out.on hb4); have hB4 := Z0.mk (below_step hB3.out hb4); clear k0 k2; have k0 := c1' hI4.out.s; have k2 := blk_frozen hI4.out.s 0))
      have st : sumT pt (rv s) (pre ++ [⟨i, hi⟩]) = σ + p * q := by
       rw [sumT_snoc, hσ.out]
       show σ + rv l[i] * rv (pt.getD i ByteArray.empty) = _
       rw [e1, e2, rv_rtxt, rv_rtxt]
      exact ⟨(ko_below hb3).trans ((ko_below hb4).trans (KeepsOthers.setCell _ _ _)), (((KB.refl _ _ W2).below hb3 (below_size hB.out)).below hb4 (below_size hB3.out)).setCell (p := ⟨w2.heap.size, 0, none⟩) hs1 (by show w2.heap.size ≠ w2.heap.size + 1; omega) _,
       ⟨⟨by rw [st]; exact blk_put hI4.out.s 0 _ rfl, blk_far (p := ⟨w2.heap.size, 0, none⟩) hI4.out.p (by show w.heap.size + 1 ≠ w2.heap.size; omega) _, blk_far (p := ⟨w2.heap.size, 0, none⟩) hI4.out.r (by show w.heap.size + 1 + 1 ≠ w2.heap.size; omega) _, blk_far (p := ⟨w2.heap.size, 0, none⟩) hI4.out.e (by show w.heap.size + 1 + 1 + 1 ≠ w2.heap.size; omega) _⟩, by rw [st]; exact h5⟩, below_set hB4.out hs1⟩
    · have n1 : w.heap.size + 1 + 1 ≠ w2.heap.size := by omega
      have n2 : w.heap.size + 1 + 1 + 1 ≠ w2.heap.size := by omega
      have n3 : w.heap.size + 1 + 1 + 1 ≠ w.heap.size + 1 + 1 := by omega
      gi_wp2_with (first
       | (gi_at_call 24; refine (CallsIn.inRound lp (callsIn_wide.2 (rAMul.calls km _ _ _ _ W2 (hL.below hB.out) A1.out))).mono ?_; rintro _ w3 ⟨rfl, hb3⟩; have hI3 := Z0.mk (hI.out.on hb3); have hB3 := Z0.mk (below_step hB.out hb3); clear k0 k1; have k0 := c1' hI3.out.s; have k2 := blk_frozen hI3.out.s 0)
       | (gi_at_call 69; refine (CallsIn.inRound lp (callsIn_wide.2 (rAAdd.calls ka _ _ _ _ w3 (hL.below hB3.out) A2.out))).mono ?_; rintro _ w4 ⟨rfl, hb4⟩; have hI4 := Z0.mk (hI3.out.on hb4); have hB4 := Z0.mk (below_step hB3.out hb4); clear k0 k2; have k0 := c1' hI4.out.s; have k2 := blk_frozen hI4.out.s 0; have k3 := c1' hI4.out.r; have k4 := blk_frozen hI4.out.r 0; have k5 := c1' hI4.out.e; have k6 := blk_frozen hI4.out.e 0))
      have g4 := put_ss (u := .string ⟨#[]⟩) (v := .int .i64 10) (blk_far (p := ⟨w2.heap.size, 0, none⟩) hI4.out.r n1 (.string ⟨#[]⟩)) (blk_far (p := ⟨w2.heap.size, 0, none⟩) hI4.out.e n2 (.string ⟨#[]⟩)) (by omega)
      exact ⟨(ko_below hb3).trans ((ko_below hb4).trans ((KeepsOthers.setCell _ _ _).trans ((KeepsOthers.setCell _ _ _).trans (KeepsOthers.setCell _ _ _)))), ⟨⟨rfl, pre, ⟨i, hi⟩, rfl, by rw [hσ.out]; show 4096 < ndR σ + ndR (rv l[i] * rv (pt.getD i ByteArray.empty)) + 1; rw [e1, e2, rv_rtxt, rv_rtxt]; exact h5⟩, g4.1, g4.2⟩, below_set (below_set (below_set hB4.out hs1) (by omega)) (by omega)⟩
   case done =>
    rintro D ys W3 hD rfl ⟨⟨hI, hnd⟩, hB⟩ hK
    have ev : sumT pt (rv s) (tmL l l.length) = evalL l s pt := by
     rw [sumT_take l pt _ h1.out l.length (Nat.le_refl _), List.take_of_length_le (by simp; omega)]
     rfl
    rw [ev] at hI hnd
    obtain ⟨v, hv⟩ : ∃ v, Z0 (evalL l s pt = v) := ⟨_, ⟨rfl⟩⟩
    rw [hv.out] at hI hnd he
    have k0 := c1' hI.s
    have n1 : w.heap.size + 1 + 1 ≠ D := by have := hbW.size; omega
    have n2 : w.heap.size + 1 + 1 + 1 ≠ D := by have := blk_lt B3.out; omega
    have n3 : w.heap.size + 1 + 1 + 1 ≠ w.heap.size + 1 + 1 := by omega
    have hwD : w.heap.size ≤ D := Nat.le_trans hbW.size hD
    replace hI := Z0.mk hI
    replace hB := Z0.mk hB
    by_cases h5 : ndR v ≤ 100
    · have hx : Z0 (numC (Sv.rtxt v) = 0) := ⟨by rw [numC_rtxt, if_pos h5]⟩
      gi_wp2_with (gi_at_call 73; refine (callsIn_wide.2 (number_ok (Sv.rtxt v) 0 W3 (hL.below hB.out) (Okt.q hnd) hx)).mono ?_; rintro _ w4 ⟨rfl, hb4⟩; have hI4 := Z0.mk (hI.out.on hb4); have hB4 := Z0.mk (below_step hB.out hb4); have hK4 := blk_below hK hb4; clear k0; have k0 := c1' hI4.out.s; have k3 := c1' hI4.out.r; have k4 := blk_frozen hI4.out.r 0; have k5 := c1' hI4.out.e; have k6 := blk_frozen hI4.out.e 0)
      have hKf := ((KeepsOthers.setCell w4 ⟨w.heap.size + 1 + 1, 0, none⟩ (.string (Sv.rtxt v))).trans (KeepsOthers.setCell _ ⟨w.heap.size + 1 + 1 + 1, 0, none⟩ (.int .i64 0))).same D _ hK4 rfl
      have g4 := put_ss (u := .string (Sv.rtxt v)) (v := .int .i64 0) hI4.out.r hI4.out.e (by omega)
      have hBf := below_set (g := w.heap.size + 1 + 1 + 1) (j := 0) (v := .int .i64 0) (below_set (g := w.heap.size + 1 + 1) (j := 0) (v := .string (Sv.rtxt v)) hB4.out (by omega)) (by omega)
      refine ⟨by simp, .inl ⟨_, _, rfl, run_takeDeferred hKf, ?_⟩⟩
      refine ⟨_, results_ss rfl _ _ _ _ _ _ agg_rat agg_err rfl rfl (c1' ((World.putObj_heap_other n1).trans g4.1)) (c1' ((World.putObj_heap_other n2).trans g4.2)), ?_, hBf.trans (belowK_b (w := w) (Nat.le_refl _) _ D _ _ hwD hKf rfl rfl)⟩
      rw [he.out, if_pos h5]
    · have hx : Z0 (numC (Sv.rtxt v) = 10) := ⟨by rw [numC_rtxt, if_neg h5]⟩
      gi_wp2_with (gi_at_call 73; refine (callsIn_wide.2 (number_ok (Sv.rtxt v) 10 W3 (hL.below hB.out) (Okt.q hnd) hx)).mono ?_; rintro _ w4 ⟨rfl, hb4⟩; have hI4 := Z0.mk (hI.out.on hb4); have hB4 := Z0.mk (below_step hB.out hb4); have hK4 := blk_below hK hb4; clear k0; have k0 := c1' hI4.out.s; have k3 := c1' hI4.out.r; have k4 := blk_frozen hI4.out.r 0; have k5 := c1' hI4.out.e; have k6 := blk_frozen hI4.out.e 0)
      have hKf := ((KeepsOthers.setCell w4 ⟨w.heap.size + 1 + 1, 0, none⟩ (.string ⟨#[]⟩)).trans (KeepsOthers.setCell _ ⟨w.heap.size + 1 + 1 + 1, 0, none⟩ (.int .i64 10))).same D _ hK4 rfl
      have g4 := put_ss (u := .string ⟨#[]⟩) (v := .int .i64 10) hI4.out.r hI4.out.e (by omega)
      have hBf := below_set (g := w.heap.size + 1 + 1 + 1) (j := 0) (v := .int .i64 10) (below_set (g := w.heap.size + 1 + 1) (j := 0) (v := .string ⟨#[]⟩) hB4.out (by omega)) (by omega)
      refine ⟨by simp, .inl ⟨_, _, rfl, run_takeDeferred hKf, ?_⟩⟩
      refine ⟨_, results_ss rfl _ _ _ _ _ _ agg_rat agg_err rfl rfl (c1' ((World.putObj_heap_other n1).trans g4.1)) (c1' ((World.putObj_heap_other n2).trans g4.2)), ?_, hBf.trans (belowK_b (w := w) (Nat.le_refl _) _ D _ _ hwD hKf rfl rfl)⟩
      rw [he.out, if_neg h5]
   case stop =>
    rintro D cd pre W3 hD ⟨k, hk, rfl⟩ ⟨⟨⟨rfl, p, x, ep, hov⟩, h4, h5⟩, hB⟩ hK
    have n1 : w.heap.size + 1 + 1 ≠ D := by have := hbW.size; omega
    have n2 : w.heap.size + 1 + 1 + 1 ≠ D := by have := blk_lt B3.out; omega
    have hwD : w.heap.size ≤ D := Nat.le_trans hbW.size hD
    obtain ⟨rfl, hxk⟩ := tmL_last _ ep
    have hno := over_long hy.out h1.out hz.out x.1 x.2 hov
    gi_wp2
    refine ⟨by simp, .inl ⟨_, _, rfl, run_takeDeferred hK, ?_⟩⟩
    refine ⟨_, results_ss rfl _ _ _ _ _ _ agg_rat agg_err rfl rfl (c1' ((World.putObj_heap_other n1).trans h4)) (c1' ((World.putObj_heap_other n2).trans h5)), ?_, hB.trans (belowK_b (w := w) (Nat.le_refl _) _ D _ _ hwD hK rfl rfl)⟩
    rw [he.out, if_neg hno]
 · go_enter Tryz.func21, Tryz.ntmps21
   go_upto_region 1 with (fail)
   refine al4 ?_
   intro W hb B0 B1 B2 B3
   replace HB := fB HB hb
   replace hC := Z0.mk (Kd.C_below hC.out hb)
   replace hC' := Z0.mk (Kd.C_below hC'.out hb)
   obtain ⟨p0, p1, -, -⟩ := b2 B0
   have q0 := c1' B1.out
   have r0' := c1' B2.out
   have r1' := c1' B3.out
   have f0 := blk_frozen B2.out 0
   have f1 := blk_frozen B3.out 0
   clear hb
   have fin : ∀ (u : World) (x : Int), Z0 (Below w.heap.size w u) → Z0 (u.heap[w.heap.size + 1 + 1]? = some (.cells #[.string ⟨#[]⟩] 23 (0, 0))) → Z0 (u.heap[w.heap.size + 1 + 1 + 1]? = some (.cells #[.int .i64 0] 28 (0, 0))) → evalS l s pt = (⟨#[]⟩, x) → ∀ tmps, tmps.getD 4 undef = .pointer (some ⟨w.heap.size + 1 + 1, 0, none⟩) → tmps.getD 5 undef = .pointer (some ⟨w.heap.size + 1 + 1 + 1, 0, none⟩) →
     bodyPost Tryz.prog Tryz.f21 (fun e w' => e = .returned (.tuple #[.string (evalS l s pt).1, .int .i64 (evalS l s pt).2]) ∧ Below w.heap.size w w') .ret { tmps := tmps, defers := [] } ((u.setCell ⟨w.heap.size + 1 + 1, 0, none⟩ (.string ⟨#[]⟩)).setCell ⟨w.heap.size + 1 + 1 + 1, 0, none⟩ (.int .i64 x)) := fun u x hB h2 h3 he tmps e4 e5 => by
    obtain ⟨k2, k3⟩ := put_ss (u := .string ⟨#[]⟩) (v := .int .i64 x) h2.out h3.out (by omega)
    refine bodyPost_ret (results_ss rfl _ _ _ _ _ _ agg_rat agg_err e4 e5 (c1' k2) (c1' k3)) rfl ?_
    rw [he]
    exact ⟨rfl, below_set (below_set hB.out (by omega)) (by omega)⟩
   by_cases h0 : y = 0
   · subst h0
     by_cases h1 : pt.length = l.length
     · have h2 : z ≠ 0 := fun e => hok ⟨rfl, h1, e⟩
       have c1 : ((pt.length : Int) != l.length) = false := by rw [h1]; exact bne_self_eq_false _
       have c2 : (z != 0) = true := bne_iff_ne.mpr h2
       have he := hev.out
       rw [if_pos rfl, if_pos h1, if_neg h2] at he
       replace he := Z0.mk he
       clear hev hok
       replace h1 := Z0.mk h1
       go_wp2_with (refine cG rfl ?_; intro w' hb; replace B0 := fk B0 hb; replace B1 := fk B1 hb; replace B2 := fk B2 hb; replace B3 := fk B3 hb; replace HB := fB HB hb; replace hC' := Z0.mk (Kd.C_below hC'.out hb); clear hb p0 p1 q0 r0' r1' f0 f1; obtain ⟨p0, p1, -, -⟩ := b2 B0; have q0 := c1' B1.out; have r0' := c1' B2.out; have r1' := c1' B3.out; have f0 := blk_frozen B2.out 0; have f1 := blk_frozen B3.out 0)
       exact fin _ _ HB B2 B3 he.out _ rfl rfl
     · have c1 : ((pt.length : Int) != l.length) = true := bne_iff_ne.mpr (by omega)
       have he := hev.out
       rw [if_pos rfl, if_neg h1] at he
       replace he := Z0.mk he
       clear hev hok
       go_wp2_with (refine cG rfl ?_; intro w' hb; replace B0 := fk B0 hb; replace B1 := fk B1 hb; replace B2 := fk B2 hb; replace B3 := fk B3 hb; replace HB := fB HB hb; replace hC' := Z0.mk (Kd.C_below hC'.out hb); clear hb p0 p1 q0 r0' r1' f0 f1; obtain ⟨p0, p1, -, -⟩ := b2 B0; have q0 := c1' B1.out; have r0' := c1' B2.out; have r1' := c1' B3.out; have f0 := blk_frozen B2.out 0; have f1 := blk_frozen B3.out 0)
       exact fin _ _ HB B2 B3 he.out _ rfl rfl
   · have c2 : (y != 0) = true := bne_iff_ne.mpr h0
     have he := hev.out
     rw [if_neg h0] at he
     replace he := Z0.mk he
     clear hev hok
     go_wp2_with (refine cG rfl ?_; intro w' hb; replace B0 := fk B0 hb; replace B1 := fk B1 hb; replace B2 := fk B2 hb; replace B3 := fk B3 hb; replace HB := fB HB hb; replace hC' := Z0.mk (Kd.C_below hC'.out hb); clear hb p0 p1 q0 r0' r1' f0 f1; obtain ⟨p0, p1, -, -⟩ := b2 B0; have q0 := c1' B1.out; have r0' := c1' B2.out; have r1' := c1' B3.out; have f0 := blk_frozen B2.out 0; have f1 := blk_frozen B3.out 0)
     exact fin _ _ HB B2 B3 he.out _ rfl rfl
set_option linter.unusedVariables false
set_option linter.unusedSimpArgs false
open Go.RowKit Go.Proofs.WWords Go.Proofs.WLast Go.Proofs.WMore
def plainC (P : Program) (o : Oper) : Bool := plainOp o.op || (match o.op with
 | .extract _ _ => true
 | .build _ _ => true
 | .call { callee := .value (.func f), args := _, argTypes := _ } => match P.funcs[f]? with | some fn => !(fn.name == "runtime.NumGoroutine") && fn.body.isSome | none => false
 | _ => false)
theorem plainC_wpIn {lp n : Nat} {P : Program} {Q : Exit → Act → World → Prop} {o : Oper} (h : plainC P o = true) {a : Act} {w : World} {K K' : Act → World → Prop} (hK : ∀ a w, K a w → K' a w) (hw : o.wp P a w K Q) : o.wpIn (Fence.wide.inRound lp) n P a w K' Q := by
 by_cases h1 : plainOp o.op = true
 · exact plain_wpIn h1 hK hw
 unfold plainC at h
 rw [Bool.not_eq_true] at h1
 rw [h1, Bool.false_or] at h
 unfold Oper.wpIn
 refine ⟨fun f hf => trivial, ?_⟩
 have hnd : ∀ c, o.op ≠ .defer c := fun c hc => by rw [hc] at h; cases h
 rw [Oper.semAt_plain _ _ _ hnd]
 unfold Oper.wp at hw
 split at h
 · rename_i x i ho
   have he : EndsPlain ((execOp a.eval o).run P w) := by
    unfold execOp
    rw [ho]
    simp only [Sem.run_bind, Sem.run_pure, bind_pure_comp, Sem.run_map]
    first | exact trivial | exact endsPlain_value
   revert he hw
   generalize (execOp a.eval o).run P w = R
   intro hw he
   cases R with
   | ok x w' => cases x <;> first | exact hK _ _ hw | exact he.elim
   | halt x w' => cases x <;> first | exact hw | exact hw.elim
 · rename_i x i ho
   have he : EndsPlain ((execOp a.eval o).run P w) := by
    unfold execOp
    rw [ho]
    simp only [Sem.run_bind, Sem.run_pure, bind_pure_comp, Sem.run_map]
    first | exact trivial | exact endsPlain_value
   revert he hw
   generalize (execOp a.eval o).run P w = R
   intro hw he
   cases R with
   | ok x w' => cases x <;> first | exact hK _ _ hw | exact he.elim
   | halt x w' => cases x <;> first | exact hw | exact hw.elim
 · rename_i f ars ts ho
   split at h
   · rename_i fn hf
     simp only [Bool.and_eq_true, Bool.not_eq_true'] at h
     have he := enters_ hf h.1 h.2 (ars.map a.eval) w
     have hrun : (execOp a.eval o).run P w = .ok (.enter f (ars.map a.eval)) w := by
      unfold execOp
      simp [ho, resolve, Deferred.ofValue, invoke, Act.eval, he]
     rw [hrun, Oper.upon_enter] at hw
     rw [hrun, Oper.uponIn_enter]
     refine ⟨fun h => (by cases h), CallsIn.inRound lp (callsIn_wide.2 (hw.mono fun e w'' h => ?_))⟩
     cases e with
     | returned v => exact hK _ _ h
     | panicked c => exact h
     | outgrown => exact h
   · cases h
 · cases h
theorem wpAnyIn_of_wpAnyC {lp n : Nat} {P : Program} {md : Region.Mode} {ops : Array Oper} {Q : Exit → Act → World → Prop} (hp : ∀ (i : Nat) (o : Oper), ops[i]? = some o → plainC P o = true) (hlo : ¬ LetsOut Q) :
  ∀ (fuel : Nat) (listed : Array Bool) (a : Act) (w : World), wpAny P md ops Q fuel listed a w → wpAnyIn (Fence.wide.inRound lp) n P md ops Q fuel listed a w
 | 0, _, _, _, h => h
 | fuel + 1, listed, a, w, h => ⟨h.1, fun i hi => by
  have h1 := h.2 i hi
  unfold wpOp at h1
  unfold wpOpIn
  cases ho : ops[i]? with
  | none => simp only [ho] at h1 ⊢; exact wpAnyIn_of_wpAnyC hp hlo fuel _ a w h1
  | some o =>
   simp only [ho] at h1 ⊢
   by_cases hw : Region.wanted o (yielded ops a.tmps) = true
   · rw [if_pos hw] at h1 ⊢
     rcases h1 with h1 | h1
     · exact plainC_wpIn (hp i o ho) (fun a' w' h' => wpAnyIn_of_wpAnyC hp hlo fuel _ a' w' h') h1
     · exact absurd h1.2 hlo
   · rw [if_neg hw] at h1 ⊢
     exact ⟨fun f hf => trivial, wpAnyIn_of_wpAnyC hp hlo fuel _ _ w h1⟩⟩
theorem plainC_all {P : Program} {ops : Array Oper} (h : (ops.toList.all fun o => plainC P o) = true) : ∀ (i : Nat) (o : Oper), ops[i]? = some o → plainC P o = true := fun i o ho => by
 have hm : o ∈ ops.toList := List.mem_of_getElem? (by rw [Array.getElem?_toList]; exact ho)
 have := List.all_eq_true.1 h o hm
 simpa using this
theorem startIn_ {lp m n : Nat} {P : Program} {ops : Array Oper} {Q : Exit → Act → World → Prop} {S : World → Prop} {ds : List Nat} {id : Nat} {a : Act} {w : World} (l : Array Bool) (hm : P.follows .mixedOrders = true) (hp : (ops.toList.all fun o => plainC P o) = true) (hlo : ¬ LetsOut Q) (hn : ops.size = n) (hl : Array.replicate n false = l) (hS : S w.drew)
  (h : S w.drew → wpAnyLast P .any ops Q S ds n l a w.drew) : (Code.region id ops true).wpIn (Fence.wide.inRound lp) m P Q a w := by
 subst hn
 subst hl
 exact wpIn_region_any hm (wpAnyIn_of_wpAnyC (plainC_all hp) hlo _ _ _ _ (wpAny_of_last _ _ _ _ (h hS)))
set_option linter.unusedVariables false
set_option linter.unusedSimpArgs false
open Go.RowKit Go.Shelf Go.Proofs.WWords Go.Proofs.WLast Go.Proofs.WMore
def tosOk (tv : List Int) (n : Int) : Bool := tv.all fun k => decide (0 ≤ k) && decide (k < n)
theorem tosOk_get {tv : List Int} {n : Int} (h : tosOk tv n = true) (i : Nat) (hi : i < tv.length) : 0 ≤ tv[i] ∧ tv[i] < n := by
 have := List.all_eq_true.1 h tv[i] (List.getElem_mem hi)
 simpa using this
noncomputable def movT {l : List ByteArray} (tv : List Int) (n : Nat) (pre : List (Ix l)) : List Rat := pre.foldl (fun m x => m.set (tv.getD x.1 0).toNat (m.getD (tv.getD x.1 0).toNat 0 + rv l[x.1])) (List.replicate n 0)
theorem movT_snoc {l : List ByteArray} (tv : List Int) (n : Nat) (pre : List (Ix l)) (x : Ix l) : movT tv n (pre ++ [x]) = (movT tv n pre).set (tv.getD x.1 0).toNat ((movT tv n pre).getD (tv.getD x.1 0).toNat 0 + rv l[x.1]) := by unfold movT; rw [List.foldl_append]; rfl
theorem movT_length {l : List ByteArray} (tv : List Int) (n : Nat) (pre : List (Ix l)) : (movT tv n pre).length = n := by
 have : ∀ (pre : List (Ix l)) (m : List Rat), (pre.foldl (fun m x => m.set (tv.getD x.1 0).toNat (m.getD (tv.getD x.1 0).toNat 0 + rv l[x.1])) m).length = m.length := by
  intro pre
  induction pre with
  | nil => intro m; rfl
  | cons x pre ih => intro m; rw [List.foldl_cons, ih, List.length_set]
 unfold movT
 rw [this, List.length_replicate]
noncomputable def renS (l : List ByteArray) (s : ByteArray) (tv : List Int) (n : Int) : List ByteArray × ByteArray × Int :=
 if chkL l s = 0 then (if n < 0 ∨ 32 < n then ([], ⟨#[]⟩, 2) else if tv.length = l.length then (if tosOk tv n = true then fin (movT tv n.toNat (tmL l l.length)) (rv s) else ([], ⟨#[]⟩, 6)) else ([], ⟨#[]⟩, 15)) else ([], ⟨#[]⟩, chkL l s)
theorem loadLin {w : World} {g t : Nat} {a b : Value} {fr : Nat × Nat} (hg : w.heap[g]? = some (.cells #[a, b] t fr)) : (loadVar 25 ⟨g, 0, none⟩).run Tryz.prog w = .ok (.agg #[a, b]) w :=
 run_loadVar_row w g t 25 #[a, b] fr _ hg Tryz.underlying25 rfl (by kernel_rfl)
theorem results_rs {fn : Func} {p q : Tmp} {ty ty' : TypeId} (h : fn.results = #[.cell p ty, .cell q ty']) (tmps : Array Value) (w : World) (g g' : Nat) (v v' : Value)
  (hg : (loadVar ty ⟨g, 0, none⟩).run Tryz.prog w = .ok v w) (h2 : ∀ w, (isAgg ty').run Tryz.prog w = .ok false w)
  (hp : tmps.getD p undef = .pointer (some ⟨g, 0, none⟩)) (hq : tmps.getD q undef = .pointer (some ⟨g', 0, none⟩)) (hv' : w.cell? ⟨g', 0, none⟩ = some v') :
  (results fn tmps).run Tryz.prog w = .ok (.tuple #[v, v']) w := by
 have e1 : tmps[p]?.getD undef = .pointer (some ⟨g, 0, none⟩) := by simpa using hp
 have e2 : tmps[q]?.getD undef = .pointer (some ⟨g', 0, none⟩) := by simpa using hq
 simp [results, h, e1, e2, asAddr, hg, loadVar_cell (h2 w) hv']
theorem put_rs {W : World} {g g' t t' : Nat} {x x' y u u' v : Value} (h : W.heap[g]? = some (.cells #[x, x'] t (0, 0))) (h' : W.heap[g']? = some (.cells #[y] t' (0, 0))) (ne : g ≠ g') :
 (((W.setCell ⟨g, 0, none⟩ u).setCell ⟨g, 1, none⟩ u').setCell ⟨g', 0, none⟩ v).heap[g]? = some (.cells #[u, u'] t (0, 0)) ∧ (((W.setCell ⟨g, 0, none⟩ u).setCell ⟨g, 1, none⟩ u').setCell ⟨g', 0, none⟩ v).heap[g']? = some (.cells #[v] t' (0, 0)) :=
 ⟨blk_far (p := ⟨g', 0, none⟩) (blk_put (blk_put h 0 _ rfl) 1 _ rfl) ne _, blk_put (blk_far (p := ⟨g, 1, none⟩) (blk_far (p := ⟨g, 0, none⟩) h' ne.symm _) ne.symm _) 0 _ rfl⟩
theorem own_R {β : Type} (base n d : Nat) (X : Option Addr) (f : β → List ByteArray) : Own fun (s : β) W => Kd.R Kd.string 23 W base (fun _ => True) (.slice X n d) (f s) := fun s A B row hs hg hr =>
 Kd.R_mono (Kd.R_step (Kd.R_bound hs) (fun k hk hl => hg.block k hl (fun e => by
  obtain ⟨o, ho, hc⟩ := hr k e.symm
  obtain ⟨_, _, _, q, _, cells, hc'⟩ := hk
  rw [hc'] at ho
  cases ho
  cases hc))) (fun _ hk => hk.1)
theorem ndR_0 : ndR 0 ≤ 1 := ndR_lit 0 1 (by decide) (by decide) (by decide) (by decide)
theorem Cs_putObj {w : World} {A : Option Addr} {n D : Nat} {xs : List ByteArray} {x o'} (h : Kd.string.C w A n xs) (hD : w.heap[D]? = some (.deferred x)) : Kd.string.C (w.putObj D o') A n xs := by
 obtain ⟨h1, h2, h3⟩ := Kd.reads_of_C (enc := Value.string) (d := ByteArray.empty) (h1 := fun _ => rfl) h
 refine Kd.C_of_reads (d := ByteArray.empty) ⟨h1, h2, fun hn => ?_⟩
 obtain ⟨ad, e, hc⟩ := h3 hn
 refine ⟨ad, e, fun j' hj => ?_⟩
 have hne : (ad.add j').block ≠ D := fun e' => by
  have := hc j' hj
  unfold World.cell? at this
  simp [e', hD] at this
 have := hc j' hj
 unfold World.cell? at this ⊢
 rw [World.putObj_heap_other hne]
 exact this
attribute [local go_sem] Oper.semAt_some
theorem Rename_ok (A T : Option Addr) (m c m' c' : Nat) (l : List ByteArray) (s : ByteArray) (tv : List Int) (n : Int) (w : World) (hL : LaidW w) (hC : Z0 (Kd.string.C w A m l)) (hC' : Z0 (Kd.C (Kd.int .i64) w T m' tv)) (hn : m = l.length) (hn' : m' = tv.length) (hm : m ≤ 1000) (hm' : m' ≤ 1000) (hO : ∀ s ∈ l, Okt s) (hOs : Okt s) :
  Calls Tryz.prog 18 #[.agg #[.slice A m c, .string s], .slice T m' c', .int .i64 n] w (LinR w w.heap.size (renS l s tv n)) := by
 subst hn hn'
 have HB := Z0.mk (Below.refl w.heap.size w)
 have hu := Tryz.underlying25
 obtain ⟨y, hy⟩ : ∃ x, Z0 (chkL l s = x) := ⟨_, ⟨rfl⟩⟩
 obtain ⟨z, hz⟩ : ∃ x : Int, Z0 ((if n < 0 ∨ 32 < n then 2 else 0) = x) := ⟨_, ⟨rfl⟩⟩
 have hev : Z0 (renS l s tv n = if y = 0 then (if n < 0 ∨ 32 < n then ([], ⟨#[]⟩, 2) else if tv.length = l.length then (if tosOk tv n = true then fin (movT tv n.toNat (tmL l l.length)) (rv s) else ([], ⟨#[]⟩, 6)) else ([], ⟨#[]⟩, 15)) else ([], ⟨#[]⟩, y)) := ⟨by rw [← hy.out]; rfl⟩
 by_cases hok : y = 0 ∧ ¬ (n < 0 ∨ 32 < n) ∧ tv.length = l.length ∧ tosOk tv n = true
 · obtain ⟨rfl, h1, h2, h3⟩ := hok
   obtain ⟨N, rfl⟩ := Int.eq_ofNat_of_zero_le (by omega : 0 ≤ n)
   have he := hev.out
   rw [if_pos rfl, if_neg h1, if_pos h2, if_pos h3] at he
   rw [Int.toNat_natCast] at he
   replace he := Z0.mk he
   obtain rfl : 0 = z := by rw [← hz.out, if_neg h1]
   clear hev
   have F1 : Fence.wide.fn 38 := trivial
   have F2 : Fence.wide.fn 68 := trivial
   have F3 : Fence.wide.fn 66 := trivial
   have F4 : Fence.wide.fn 67 := trivial
   have F5 : Fence.wide.fn 60 := trivial
   have c1 : ((tv.length : Int) != l.length) = false := by rw [h2]; exact bne_self_eq_false _
   have hn1 : N ≤ 32 := by omega
   clear h1
   replace h2 := Z0.mk h2
   have mixed : Tryz.prog.follows .mixedOrders = true := by kernel_rfl
   refine (callsIn_wide (n := 4)).1 ?_
   refine callsIn_of_wp_marks Tryz.func18 rfl trivial ?_ rfl
   simp only [Tryz.ntmps18, List.size_toArray, List.length_cons, List.length_nil, Nat.reduceAdd, Nat.reduceSub, Array.replicate_succ, Array.replicate_zero, List.push_toArray, List.append_toArray, List.nil_append, List.cons_append]
   gi_wp2_with (first
    | (gi_at_call 38; refine (callsIn_wide.2 (lCheck_ok A l.length c l s 0 _ (hL.below bqs) ⟨Kd.C_below hC.out bqs⟩ rfl hm hO hOs hy)).mono ?_; rintro _ w1 ⟨rfl, hb⟩; obtain ⟨hb1, B0, B1, B2, B3⟩ := after4 hb; clear hb)
    | (gi_at_call 66; refine (callsIn_wide.2 (dims_ok N 0 _ hz)).mono ?_; rintro _ w2 ⟨rfl, hb⟩; replace B0 := Z0.mk (blk_below B0.out hb); replace B1 := Z0.mk (blk_below B1.out hb); replace B2 := Z0.mk (blk_below B2.out hb); replace B3 := Z0.mk (blk_below B3.out hb); replace hb1 := below_step hb1 hb; clear hb; obtain ⟨p0, p1, -, -⟩ := b2 B0; have q0 := c1' B1.out))
   gi_loopw [38] (fun i wr => ∃ j : Nat, j ≤ tv.length ∧ i = .int .i64 j ∧ Z0 (wr.heap[w.heap.size]? = some (.cells #[.slice A l.length c, .string s] 25 (0, 0))) ∧ Z0 (wr.heap[w.heap.size + 1]? = some (.cells #[.slice T tv.length c'] 35 (0, 0))) ∧ Z0 (wr.heap[w.heap.size + 1 + 1]? = some (.cells #[.slice none 0 0, .string ⟨#[]⟩] 25 (0, 0))) ∧ Z0 (wr.heap[w.heap.size + 1 + 1 + 1]? = some (.cells #[.int .i64 0] 28 (0, 0))) ∧ Z0 (Below w.heap.size w wr))
        (fun i _ => tv.length - (Go.RowKit.intOf i).toNat)
   case atStart => exact ⟨0, by omega, rfl, B0, B1, B2, B3, ⟨hb1⟩⟩
   case round =>
    clear B0 B1 B2 B3 hb1 p0 p1 q0
    obtain ⟨j, hj, rfl, B0, B1, B2, B3, hb1⟩ := hrel
    rcases Nat.lt_or_ge j tv.length with h4 | h4
    · obtain ⟨ad, rfl, hxx, x1, x2⟩ := atI (Kd.C_below hC'.out hb1.out) (j : Int) (by omega) (by omega)
      rw [Int.toNat_natCast] at hxx
      have hs : rd tv (j : Int) = tv[j] := rd_get tv j h4
      rw [hs] at hxx
      have c4 : decide ((j : Int) < tv.length) = true := decide_eq_true (by omega)
      have c5 : decide (tv[j] < 0) = false := decide_eq_false (by have := tosOk_get h3 j h4; omega)
      have c6 : decide ((N : Int) ≤ tv[j]) = false := decide_eq_false (by have := tosOk_get h3 j h4; omega)
      gi_wp2
      go_roundw
      case rel => exact ⟨j + 1, by omega, by simp, B0, B1, B2, B3, hb1⟩
      case measure => simp [Go.RowKit.intOf]; omega
    obtain rfl : j = tv.length := by omega
    have z4 := blk_lt B3.out
    obtain ⟨p0, p1, -, -⟩ := b2 B0
    have hC2 := Z0.mk (Kd.C_below hC.out hb1.out)
    gi_wp2_with (first
     | (gi_at_call 67; refine (callsIn_wide.2 (flat_ok N N s _ ⟨rfl⟩ (by omega))).mono ?_; rintro _ w3 ⟨X, d, rfl, HO, hb⟩; have hlo := Z0.mk hb.size; replace B0 := Z0.mk (blk_below B0.out hb); replace B1 := Z0.mk (blk_below B1.out hb); replace B2 := Z0.mk (blk_below B2.out hb); replace B3 := Z0.mk (blk_below B3.out hb); have hb3 := below_step hb1.out hb; clear p0 p1; obtain ⟨p0, p1, -, -⟩ := b2 B0; obtain ⟨u0, u1, -, -⟩ := b2 (Z0.mk (blk_alloc B0.out (.cells #[.slice X N d, .string s] 25))))
     | (gi_at_call 68; refine (callsIn_wide.2 (terms_ok A l.length c s _)).mono ?_; rintro _ w' ⟨rfl, rfl⟩))
    refine al2 ?_
    intro W hb S0 S1
    have z3 := blk_lt B3.out
    have hl3 : ∀ k, (Value.slice X N d).ownBlock = some k → k < w3.heap.size := Kd.R_lt HO
    have hbW := below_step hb3 hb
    replace B1 := Z0.mk (blk_below B1.out hb)
    replace B2 := Z0.mk (blk_below B2.out hb)
    replace B3 := Z0.mk (blk_below B3.out hb)
    replace HO := Kd.R_below HO hb
    have z1 := blk_lt S1.out
    have hs1 := below_size hb3
    have hs2 := below_size hb1.out
    have hrs : Sv.rtxt (rv s) = s ∧ ndR (rv s) ≤ 100 := by
     obtain ⟨-, _, q, -, rfl, -, h⟩ := of_chkL hy.out
     rw [rv_rtxt]; exact ⟨rfl, h⟩
    have hz0 : zeros N = ((movT tv N ([] : List (Ix l))).map Sv.rtxt) := by
     show _ = (List.replicate N (0 : Rat)).map Sv.rtxt
     rw [List.map_replicate]; rfl
    rw [hz0] at HO
    have hl32 : l.length ≤ 32 := (of_chkL hy.out).1
    clear B0 p0 p1 u0 u1 hz0
    refine wpIn_rangeFunc_ownF rfl (by omega) (gf := 115) (lb := #[.pointer (some ⟨w3.heap.size + 1, 0, none⟩)]) rfl trivial (enters_of Tryz.func115 (by kernel_rfl) rfl)
     (terms_stops (4 - 1) (by omega) (w3.heap.size + 1) w.heap.size c A l s (by omega) W S1.out hbW.size (fun W' h => Kd.C_below hC.out (hbW.trans h))) kb_t (kb_b hbW.size z1) (Below.refl _ _) (fun _ => rfl)
     (fun pre W' => ((Kd.R Kd.string 23 W' wr.heap.size (fun _ => True) (.slice X N d) ((movT tv N pre).map Sv.rtxt) ∧ W'.heap[w3.heap.size]? = some (.cells #[.slice X N d, .string s] 25 (0, 0)) ∧ W'.heap[w.heap.size + 1]? = some (.cells #[.slice T tv.length c'] 35 (0, 0)) ∧ W'.heap[w.heap.size + 1 + 1]? = some (.cells #[.slice none 0 0, .string ⟨#[]⟩] 25 (0, 0)) ∧ W'.heap[w.heap.size + 1 + 1 + 1]? = some (.cells #[.int .i64 0] 28 (0, 0))) ∧ (∀ q ∈ movT tv N pre, ndR q ≤ 1 + 102 * pre.length)) ∧ Below w.heap.size w W')
     (fun _ _ _ => False)
     (OwnFrom.and (OwnFrom.and (OwnFrom.and (Own.from (own_R _ _ _ _ _) _) (OwnFrom.and (Own.from (own_cells _ _ _ (fun _ => _)) _) (OwnFrom.and (Own.from (own_cells _ _ _ (fun _ => _)) _) (OwnFrom.and (Own.from (own_cells _ _ _ (fun _ => _)) _) (Own.from (own_cells _ _ _ (fun _ => _)) _))))) (ownFrom_pure _ _)) (ownFrom_below (Nat.le_refl _) hbW.size))
     (fun _ _ _ _ _ hs _ _ => hs)
     ⟨⟨⟨HO, S0.out, B1.out, B2.out, B3.out⟩, fun q hq => by rw [List.eq_of_mem_replicate hq]; exact ndR_0⟩, hbW⟩
     ?act1 ?assign ?body ?done ?stop
    case assign =>
     intro lp x W K hK
     simp only [encT]
     gi_wp2
     exact hK
    case body =>
     rintro lp pre ⟨i, hi⟩ W2 ⟨⟨⟨hR, hgo, hgt, hg6, hg7⟩, hnd⟩, hB⟩ hlen
     obtain ⟨p, e1, hp⟩ : ∃ p, l[i] = Sv.rtxt p ∧ ndR p ≤ 100 := by
      obtain ⟨-, qs, q, rfl, rfl, h, -⟩ := of_chkL hy.out
      have hi' : i < qs.length := by simpa using hi
      exact ⟨qs[i], by simp, h _ (List.getElem_mem _)⟩
     have hiT : i < tv.length := by have := h2.out; omega
     have ht := tosOk_get h3 i hiT
     obtain ⟨ad, rfl, hxx, x1, x2⟩ := atI (Kd.C_below hC'.out hB) (i : Int) (by omega) (by omega)
     rw [Int.toNat_natCast] at hxx
     have hs : rd tv (i : Int) = tv[i] := rd_get tv i hiT
     rw [hs] at hxx
     clear hs
     have htg : tv.getD i 0 = tv[i] := by rw [List.getD_eq_getElem?_getD, List.getElem?_eq_getElem hiT]; rfl
     obtain ⟨tq, htk⟩ : ∃ tq : Nat, tv[i] = tq := ⟨tv[i].toNat, by omega⟩
     rw [htk] at hxx ht htg
     obtain ⟨g, rfl, k0, k1, k2, k3⟩ := ownS ⟨hR⟩ tq ht.1 (by omega)
     have htn : tq < (movT tv N pre).length := by rw [movT_length]; omega
     obtain ⟨σ, hσ⟩ : ∃ σ, (movT tv N pre)[tq] = σ := ⟨_, rfl⟩
     have hσd : ndR σ ≤ 3500 := by
      have := hnd σ (by rw [← hσ]; exact List.getElem_mem _)
      omega
     have hrd : rdOf ByteArray.empty ((movT tv N pre).map Sv.rtxt) tq = Sv.rtxt σ := by simp [rdOf, htn, hσ]
     rw [hrd] at k0
     obtain ⟨ka, A2⟩ := (addE σ p (by omega)).as
     have G2 : Fence.wide.fn 69 := trivial
     have hd2 : 1 ≤ 4 - 1 - 1 := by omega
     simp only [e1]
     obtain ⟨r0, r1, f0, f1⟩ := b2 ⟨hgo⟩
     have q0 := c1' hgt
     have ka1 : (Addr.mk g 0 none).add tq = ⟨g, tq, none⟩ := add_plain g tq
     gi_wp2
     have hBd : Below w.heap.size w W2.drew := below_drew hB
     refine startIn_ (n := 15) (S := fun w' => w'.cell? ⟨w3.heap.size, 0, none⟩ = some (.slice (some ⟨g, 0, none⟩) N d) ∧ w'.cell? ⟨w.heap.size + 1, 0, none⟩ = some (.slice (some ad) tv.length c') ∧ w'.cell? (ad.add i) = some (.int .i64 tq) ∧ w'.cell? ⟨g, tq, none⟩ = some (.string (Sv.rtxt σ))) (ds := []) _ mixed (by kernel_rfl) (by rintro ⟨_, _, h⟩; exact h) rfl rfl ⟨r0, q0, hxx, k0⟩ (fun hHeld => ?_)
     refine tp 0 60 ?_
     refine tk 1 61 (by exact hHeld) ?_
     refine tk 2 62 (by exact hHeld) ?_
     refine tp 3 63 ?_
     refine tp 4 64 ?_
     refine tk 5 65 (by exact hHeld) ?_
     refine tp 6 66 ?_
     refine tk 7 67 (by exact hHeld) ?_
     refine tp 8 68 ?_
     refine cl 9 69 ⟨_, Tryz.func69, by kernel_rfl, rfl⟩ (rAAdd.calls ka _ _ _ _ W2.drew (hL.below hBd) A2.out) ?_
     rintro _ w4 ⟨rfl, hb4⟩
     have hb4' : Below W2.heap.size W2 w4 := (Below.refl W2.heap.size W2).drew.trans hb4
     have hB4 := below_step hB hb4'
     have hg4 := blk_below hgo hb4'
     have ht4 := blk_below hgt hb4'
     have hR4 := Kd.R_below hR hb4'
     obtain ⟨ad', e4, hxx4, -, -⟩ := atI (Kd.C_below hC'.out hB4) (i : Int) (by omega) (by omega)
     obtain rfl : ad = ad' := by injection e4
     rw [Int.toNat_natCast] at hxx4
     have hs4 : rd tv (i : Int) = tq := (rd_get tv i hiT).trans htk
     rw [hs4] at hxx4
     clear hs4 e4
     obtain ⟨g', e4, k0', k1', -, -⟩ := ownS ⟨hR4⟩ tq ht.1 (by omega)
     obtain rfl : g = g' := by injection e4 with e4; injection e4
     clear e4
     rw [hrd] at k0'
     rw [Int.toNat_natCast] at k0' k1'
     clear r0 r1 q0 hxx k0 k1 f0 f1 hHeld
     obtain ⟨r0, r1, f0, f1⟩ := b2 ⟨hg4⟩
     have q0 := c1' ht4
     refine ⟨_, rfl, ⟨r0, q0, hxx4, k0'⟩, _, (by (simp only [Act.put, List.setIfInBounds_toArray, List.set_cons_zero, List.set_cons_succ]); rfl), ?_⟩
     refine tp 10 59 ?_
     refine tp 11 70 ?_
     refine tp 12 71 ?_
     refine tp 13 15 ?_
     refine tp 14 16 ?_
     refine done_ (by kernel_rfl) ?_
     gi_wp2
     refine startIn_ (n := 9) (S := fun w' => w'.cell? ⟨w3.heap.size, 0, none⟩ = some (.slice (some ⟨g, 0, none⟩) N d) ∧ w'.cell? ⟨w.heap.size + 1, 0, none⟩ = some (.slice (some ad) tv.length c') ∧ w'.cell? (ad.add i) = some (.int .i64 tq) ∧ w'.frozen? ⟨g, tq, none⟩ = false) (ds := [8]) _ mixed (by kernel_rfl) (by rintro ⟨_, _, h⟩; exact h) rfl rfl ⟨r0, q0, hxx4, k1'⟩ (fun hHeld => ?_)
     refine tp 0 75 ?_
     refine tk 1 76 (by exact hHeld) ?_
     refine tk 2 77 (by exact hHeld) ?_
     refine tp 3 78 ?_
     refine tp 4 79 ?_
     refine tk 5 80 (by exact hHeld) ?_
     refine tp 6 81 ?_
     refine tp 7 82 ?_
     refine stL 8 ?_
     refine done_ (by kernel_rfl) ?_
     gi_wp2
     have hR5 := Kd.R_putg (Kd.R_below hR4 (Below.refl w4.heap.size w4).drew) (tq : Int) (Sv.rtxt (σ + p))
     have hgb : wr.heap.size ≤ g := Kd.R_base hR g rfl
     have hgl : g < w3.heap.size := hl3 g rfl
     have st : ((movT tv N pre).map Sv.rtxt).set (tq : Int).toNat (Sv.rtxt (σ + p)) = (movT tv N (pre ++ [⟨i, hi⟩])).map Sv.rtxt := by
      rw [movT_snoc, List.map_set, htg, Int.toNat_natCast]
      show _ = List.set _ tq (Sv.rtxt ((movT tv N pre).getD tq 0 + rv l[i]))
      rw [e1, rv_rtxt, List.getD_eq_getElem?_getD, List.getElem?_eq_getElem htn, Option.getD_some, hσ]
     rw [st] at hR5
     have hb5 : Below W2.heap.size W2 w4.drew := hb4'.drew
     refine ⟨(ko_below hb4').trans ((KeepsOthers.drew _).trans (KeepsOthers.setCell _ _ _)), ((((KB.refl _ _ W2).below hb4' (below_size hB)).drew).setCell (p := ⟨g, tq, none⟩) (by show w.heap.size ≤ g; omega) (by show g ≠ w3.heap.size + 1; omega) _),
      ⟨⟨hR5.1, (hR5.2.block _ (blk_lt hg4) (Kd.R_ne hR4 hg4 (by decide))).trans hg4, (hR5.2.block _ (blk_lt ht4) (Kd.R_ne hR4 ht4 (by decide))).trans ht4, (hR5.2.block _ (blk_lt (blk_below hg6 hb5)) (Kd.R_ne hR4 (blk_below hg6 hb4') (by decide))).trans (blk_below hg6 hb5), (hR5.2.block _ (blk_lt (blk_below hg7 hb5)) (Kd.R_ne hR4 (blk_below hg7 hb4') (by decide))).trans (blk_below hg7 hb5)⟩, ?_⟩, below_set (below_drew hB4) (by omega)⟩
     intro q hq
     rw [movT_snoc] at hq
     have hlen2 : (pre ++ [(⟨i, hi⟩ : Ix l)]).length = pre.length + 1 := by simp
     rw [hlen2]
     rcases List.mem_or_eq_of_mem_set hq with h | h
     · have := hnd q h; omega
     · subst h
       rw [htg, Int.toNat_natCast]
       show ndR ((movT tv N pre).getD tq 0 + rv l[i]) ≤ _
       rw [e1, rv_rtxt, List.getD_eq_getElem?_getD, List.getElem?_eq_getElem htn, Option.getD_some, hσ]
       have h1 := ndR_add σ p
       have h2 := hnd σ (by rw [← hσ]; exact List.getElem_mem _)
       omega
    case done =>
     rintro D ys W3 hD rfl ⟨⟨⟨hR, hgo, hgt, hg6, hg7⟩, hnd⟩, hB⟩ hK
     obtain ⟨v, hv⟩ : ∃ v, Z0 (movT tv N (tmL l l.length) = v) := ⟨_, ⟨rfl⟩⟩
     have hvl : N = v.length := by rw [← hv.out, movT_length]
     rw [hv.out] at hR hnd he
     have ht := tmL_length l l.length
     obtain ⟨hRn, hRc, hRC⟩ := Kd.R_reads' hR
     have hab : Ab (w.heap.size + 1 + 1 + 1 + 1) X := fun ad e => by
      subst e
      have := Kd.R_base hR ad.block rfl
      omega
     obtain ⟨r0, r1, -, -⟩ := b2 ⟨hgo⟩
     have n1 : w.heap.size + 1 + 1 ≠ D := by have := blk_lt B3.out; omega
     have n2 : w.heap.size + 1 + 1 + 1 ≠ D := by have := blk_lt B3.out; omega
     have hwD : w.heap.size ≤ D := Nat.le_trans hbW.size hD
     have hdn := done_ok X N d (w.heap.size + 1 + 1 + 1 + 1) v (rv s) W3 (hL.below hB) ⟨by have := hRC; rwa [List.length_map, ← hvl] at this⟩ hvl (by omega) hRc hab (fun q hq => by have := hnd q hq; omega) (by have := hrs.2; omega)
     rw [hrs.1] at hdn
     replace hdn := Z0.mk hdn
     replace hvl := Z0.mk hvl
     replace hrs := Z0.mk hrs
     clear hRn
     gi_wp2_with (gi_at_call 60; refine (callsIn_wide.2 hdn.out).mono ?_; rintro _ w4 ⟨X', d', rfl, hc4, hC4, hA4, hb4⟩; have B6 := Z0.mk (blk_below hg6 hb4); have B7 := Z0.mk (blk_below hg7 hb4); obtain ⟨k2, k3, k4, k5⟩ := b2 B6; have k6 := c1' B7.out; have k7 := blk_frozen B7.out 0)
     have hK4 := blk_below hK hb4
     have hB4 := below_step hB hb4
     have hKf := ((KeepsOthers.setCell w4 ⟨w.heap.size + 1 + 1, 0, none⟩ (.slice X' (fin v (rv s)).1.length d')).trans ((KeepsOthers.setCell _ ⟨w.heap.size + 1 + 1, 1, none⟩ (.string (fin v (rv s)).2.1)).trans (KeepsOthers.setCell _ ⟨w.heap.size + 1 + 1 + 1, 0, none⟩ (.int .i64 (fin v (rv s)).2.2)))).same D _ hK4 rfl
     have g4 := put_rs (u := .slice X' (fin v (rv s)).1.length d') (u' := .string (fin v (rv s)).2.1) (v := .int .i64 (fin v (rv s)).2.2) B6.out B7.out (by omega)
     have hBf := below_set (g := w.heap.size + 1 + 1 + 1) (j := 0) (v := .int .i64 (fin v (rv s)).2.2) (below_set (g := w.heap.size + 1 + 1) (j := 1) (v := .string (fin v (rv s)).2.1) (below_set (g := w.heap.size + 1 + 1) (j := 0) (v := .slice X' (fin v (rv s)).1.length d') hB4 (by omega)) (by omega)) (by omega)
     refine ⟨by simp, .inl ⟨_, _, rfl, run_takeDeferred hKf, ?_⟩⟩
     refine ⟨_, results_rs rfl _ _ _ _ _ _ (loadLin ((World.putObj_heap_other n1).trans g4.1)) agg_err rfl rfl (c1' ((World.putObj_heap_other n2).trans g4.2)), ?_⟩
     have hC5 : Kd.string.C (((w4.setCell ⟨w.heap.size + 1 + 1, 0, none⟩ (.slice X' (fin v (rv s)).1.length d')).setCell ⟨w.heap.size + 1 + 1, 1, none⟩ (.string (fin v (rv s)).2.1)).setCell ⟨w.heap.size + 1 + 1 + 1, 0, none⟩ (.int .i64 (fin v (rv s)).2.2)) X' (fin v (rv s)).1.length (fin v (rv s)).1 := Cs_set (Cs_set (Cs_set hC4 (fun ad e => by have := hA4 ad e; omega) _) (fun ad e => by have := hA4 ad e; omega) _) (fun ad e => by have := hA4 ad e; omega) _
     have hC6 := Cs_putObj (o' := .deferred none) hC5 hKf
     rw [he.out]
     exact ⟨X', d', rfl, hc4, hC6, hA4.mono (by omega), hBf.trans (belowK_b (w := w) (Nat.le_refl _) _ D _ _ hwD hKf rfl rfl)⟩
    case stop => exact fun _ _ _ _ _ ⟨_, _, _⟩ hf => hf.elim
 · go_enter Tryz.func18, Tryz.ntmps18
   go_upto_region 1 with (fail)
   refine al4 ?_
   intro W hb B0 B1 B2 B3
   replace HB := fB HB hb
   replace hC := Z0.mk (Kd.C_below hC.out hb)
   replace hC' := Z0.mk (Kd.C_below hC'.out hb)
   obtain ⟨p0, p1, -, -⟩ := b2 B0
   have q0 := c1' B1.out
   obtain ⟨r0, r1, f0, f1⟩ := b2 B2
   have r2 := c1' B3.out
   have f2 := blk_frozen B3.out 0
   clear hb
   have fin : ∀ (u : World) (x : Int), Z0 (Below w.heap.size w u) → Z0 (u.heap[w.heap.size + 1 + 1]? = some (.cells #[.slice none 0 0, .string ⟨#[]⟩] 25 (0, 0))) → Z0 (u.heap[w.heap.size + 1 + 1 + 1]? = some (.cells #[.int .i64 0] 28 (0, 0))) → renS l s tv n = ([], ⟨#[]⟩, x) → ∀ tmps, tmps.getD 6 undef = .pointer (some ⟨w.heap.size + 1 + 1, 0, none⟩) → tmps.getD 7 undef = .pointer (some ⟨w.heap.size + 1 + 1 + 1, 0, none⟩) →
     bodyPost Tryz.prog Tryz.f18 (LinR w w.heap.size (renS l s tv n)) .ret { tmps := tmps, defers := [] } (((u.setCell ⟨w.heap.size + 1 + 1, 0, none⟩ (.slice none 0 0)).setCell ⟨w.heap.size + 1 + 1, 1, none⟩ (.string ⟨#[]⟩)).setCell ⟨w.heap.size + 1 + 1 + 1, 0, none⟩ (.int .i64 x)) := fun u x hB h2 h3 he tmps e4 e5 => by
    obtain ⟨k2, k3⟩ := put_rs (u := .slice none 0 0) (u' := .string ⟨#[]⟩) (v := .int .i64 x) h2.out h3.out (by omega)
    refine bodyPost_ret (results_rs rfl _ _ _ _ _ _ (loadLin k2) agg_err e4 e5 (c1' k3)) rfl ?_
    rw [he]
    exact ⟨none, 0, rfl, Nat.le_refl _, C_nilS, Ab.none, below_set (below_set (below_set hB.out (by omega)) (by omega)) (by omega)⟩
   by_cases h0 : y = 0
   · subst h0
     by_cases h1 : n < 0 ∨ 32 < n
     · obtain rfl : 2 = z := by rw [← hz.out, if_pos h1]
       have he := hev.out
       rw [if_pos rfl, if_pos h1] at he
       replace he := Z0.mk he
       clear hev hok h1
       go_wp2_with (refine cG rfl ?_; intro w' hb; replace B0 := fk B0 hb; replace B1 := fk B1 hb; replace B2 := fk B2 hb; replace B3 := fk B3 hb; replace HB := fB HB hb; clear hb p0 p1 q0 r0 r1 r2 f0 f1 f2; obtain ⟨p0, p1, -, -⟩ := b2 B0; have q0 := c1' B1.out; obtain ⟨r0, r1, f0, f1⟩ := b2 B2; have r2 := c1' B3.out; have f2 := blk_frozen B3.out 0)
       exact fin _ _ HB B2 B3 he.out _ rfl rfl
     obtain rfl : 0 = z := by rw [← hz.out, if_neg h1]
     by_cases h2 : tv.length = l.length
     · have c1 : ((tv.length : Int) != l.length) = false := by rw [h2]; exact bne_self_eq_false _
       have h3 : ¬ tosOk tv n = true := fun e => hok ⟨rfl, h1, h2, e⟩
       have he := hev.out
       rw [if_pos rfl, if_neg h1, if_pos h2, if_neg h3] at he
       replace he := Z0.mk he
       replace h2 := Z0.mk h2
       clear hev hok h1
       go_wp2_with (refine cG rfl ?_; intro w' hb; replace B0 := fk B0 hb; replace B1 := fk B1 hb; replace B2 := fk B2 hb; replace B3 := fk B3 hb; replace HB := fB HB hb; replace hC' := Z0.mk (Kd.C_below hC'.out hb); clear hb p0 p1 q0 r0 r1 r2 f0 f1 f2; obtain ⟨p0, p1, -, -⟩ := b2 B0; have q0 := c1' B1.out; obtain ⟨r0, r1, f0, f1⟩ := b2 B2; have r2 := c1' B3.out; have f2 := blk_frozen B3.out 0)
       go_loopw [38] (fun i wr => ∃ j : Nat, j ≤ tv.length ∧ i = .int .i64 j ∧ (∀ k (hk : k < j) (hk' : k < tv.length), 0 ≤ tv[k] ∧ tv[k] < n) ∧ Z0 (Kd.C (Kd.int .i64) wr T tv.length tv) ∧ Z0 (wr.heap[w.heap.size + 1 + 1]? = some (.cells #[.slice none 0 0, .string ⟨#[]⟩] 25 (0, 0))) ∧ Z0 (wr.heap[w.heap.size + 1 + 1 + 1]? = some (.cells #[.int .i64 0] 28 (0, 0))) ∧ Z0 (Below w.heap.size w wr))
        (fun i _ => tv.length - (Go.RowKit.intOf i).toNat)
       case atStart => exact ⟨0, by omega, rfl, fun k hk => absurd hk (by omega), hC', B2, B3, HB⟩
       clear hC' B0 B1 B2 B3 HB p0 p1 q0 r0 r1 r2 f0 f1 f2
       obtain ⟨j, hj, rfl, hgood, hC', B2, B3, HB⟩ := hrel
       obtain ⟨r0, r1, f0, f1⟩ := b2 B2
       have r2 := c1' B3.out
       have f2 := blk_frozen B3.out 0
       rcases Nat.lt_or_ge j tv.length with h4 | h4
       · obtain ⟨ad, rfl, hxx, x1, x2⟩ := atI hC'.out (j : Int) (by omega) (by omega)
         rw [Int.toNat_natCast] at hxx
         have hs : rd tv (j : Int) = tv[j] := rd_get tv j h4
         rw [hs] at hxx
         have c4 : decide ((j : Int) < tv.length) = true := decide_eq_true (by omega)
         by_cases h5 : tv[j] < 0
         · have c5 : decide (tv[j] < 0) = true := decide_eq_true h5
           go_wp2
           exact fin _ _ HB B2 B3 he.out _ rfl rfl
         have c5 : decide (tv[j] < 0) = false := decide_eq_false h5
         by_cases h6 : n ≤ tv[j]
         · have c6 : decide (n ≤ tv[j]) = true := decide_eq_true h6
           go_wp2
           exact fin _ _ HB B2 B3 he.out _ rfl rfl
         have c6 : decide (n ≤ tv[j]) = false := decide_eq_false h6
         go_wp2
         refine ⟨⟨j + 1, by omega, by simp, fun k hk hk' => ?_, hC', B2, B3, HB⟩, by simp [Go.RowKit.intOf]; omega⟩
         rcases Nat.lt_or_ge k j with h | h
         · exact hgood k h hk'
         · obtain rfl : k = j := by omega
           omega
       · exact absurd (List.all_eq_true.2 fun k hk => by
          obtain ⟨i, hi, rfl⟩ := List.getElem_of_mem hk
          have := hgood i (by omega) hi
          simp [this.1, this.2]) h3
     · have c1 : ((tv.length : Int) != l.length) = true := bne_iff_ne.mpr (by omega)
       have he := hev.out
       rw [if_pos rfl, if_neg h1, if_neg h2] at he
       replace he := Z0.mk he
       clear hev hok h1
       go_wp2_with (refine cG rfl ?_; intro w' hb; replace B0 := fk B0 hb; replace B1 := fk B1 hb; replace B2 := fk B2 hb; replace B3 := fk B3 hb; replace HB := fB HB hb; clear hb p0 p1 q0 r0 r1 r2 f0 f1 f2; obtain ⟨p0, p1, -, -⟩ := b2 B0; have q0 := c1' B1.out; obtain ⟨r0, r1, f0, f1⟩ := b2 B2; have r2 := c1' B3.out; have f2 := blk_frozen B3.out 0)
       exact fin _ _ HB B2 B3 he.out _ rfl rfl
   · have c2 : (y != 0) = true := bne_iff_ne.mpr h0
     have he := hev.out
     rw [if_neg h0] at he
     replace he := Z0.mk he
     clear hev hok
     go_wp2_with (refine cG rfl ?_; intro w' hb; replace B0 := fk B0 hb; replace B1 := fk B1 hb; replace B2 := fk B2 hb; replace B3 := fk B3 hb; replace HB := fB HB hb; clear hb p0 p1 q0 r0 r1 r2 f0 f1 f2; obtain ⟨p0, p1, -, -⟩ := b2 B0; have q0 := c1' B1.out; obtain ⟨r0, r1, f0, f1⟩ := b2 B2; have r2 := c1' B3.out; have f2 := blk_frozen B3.out 0)
     exact fin _ _ HB B2 B3 he.out _ rfl rfl
set_option linter.unusedVariables false
set_option linter.unusedSimpArgs false
open Go.RowKit Go.Proofs.WWords Go.Proofs.WLast Go.Proofs.WMore
section
variable {P : Program} {ops : Array Oper} {Q : Exit → Act → World → Prop} {md : Region.Mode} {S : World → Prop} {ds : List Nat}
theorem op_of_list {o : Oper} {a : Act} {w : World} {K : Act → World → Prop} (hg : o.guard = none)
  (h : wpList P ops (fun e a w => match e with | .normal => K a w | e => Q e a w) [o] a w) : Oper.wp P o a w K Q ∨ (o.asks P a w ∧ LetsOut Q) := by
 unfold wpList at h
 rw [if_pos (by simp only [Region.wanted, hg])] at h
 rcases h with h | h
 · left
   unfold Oper.wp at h ⊢
   revert h
   generalize (execOp a.eval o).run P w = R
   intro h
   cases R with
   | ok x w' =>
    cases x with
    | enter f args =>
     simp only [Oper.upon] at h ⊢
     refine Calls.mono h fun e w'' h => ?_
     cases e <;> exact h
    | row r args =>
     simp only [Oper.upon] at h ⊢
     exact Rows.mono h fun v w'' h => h
    | _ => simp only [Oper.upon] at h ⊢ <;> exact h
   | halt x w' => cases x <;> simp only [Oper.upon] at h ⊢ <;> exact h
 · right; exact h
structure AF1 (n0 : Nat) (ob : Obj) (b : Bool) (x : Value) (w : World) : Prop where
  p : b = true → ∃ g, x = .pointer (some ⟨g, 0, none⟩) ∧ n0 ≤ g ∧ w.heap[g]? = some ob
  n : n0 ≤ w.heap.size
theorem AF1.on {n0 : Nat} {ob : Obj} {b : Bool} {x : Value} {w w' : World} (h : AF1 n0 ob b x w) (hb : Below w.heap.size w w') : AF1 n0 ob b x w' :=
 ⟨fun e => (by obtain ⟨g, e1, e2, e3⟩ := h.p e; exact ⟨g, e1, e2, (hb.block g (Array.getElem?_eq_some_iff.1 e3).1).trans e3⟩), Nat.le_trans h.n hb.size⟩
theorem AF1.keep {n0 : Nat} {ob : Obj} {b : Bool} {x : Value} {w w' : World} (h : AF1 n0 ob b x w) (hs : w.heap.size ≤ w'.heap.size) (hb : ∀ g : Nat, w.heap[g]? = some ob → w'.heap[g]? = some ob) : AF1 n0 ob b x w' :=
 ⟨fun e => (by obtain ⟨g, e1, e2, e3⟩ := h.p e; exact ⟨g, e1, e2, hb g e3⟩), Nat.le_trans h.n hs⟩
theorem AF1.start {n0 : Nat} {ob : Obj} {x : Value} {w : World} (h : n0 ≤ w.heap.size) : AF1 n0 ob false x w := ⟨fun e => (by cases e), h⟩
theorem AF1.putp {n0 : Nat} {ob : Obj} {x : Value} {w : World} (h : AF1 n0 ob false x w) : AF1 n0 ob true (.pointer (some ⟨w.heap.size, 0, none⟩)) (w.alloc ob) :=
 ⟨fun _ => ⟨_, rfl, h.n, blk_new _ _⟩, (h.on (below_alloc (Below.refl _ _) ob)).n⟩
theorem as_put1 {a : Act} {d : Tmp} {x : Value} (h1 : a.tmps[d]? = some x) : a.put (some d) x = a := by
 have h2 : (a.put (some d) x).put (some d) x = a.put (some d) x := put_put _ _ _ _
 obtain ⟨t, ds⟩ := a
 unfold Act.put
 simp only at h1 ⊢
 congr 1
 apply Array.ext_getElem?
 intro j
 rw [Array.getElem?_setIfInBounds]
 split
 · subst_vars
   split
   · exact h1.symm
   · rename_i h'; rw [Array.getElem?_eq_none (by omega)]
 · rfl
def ready1 (md : Region.Mode) (ops : Array Oper) (i p : Nat) (b : Bool) (l : Array Bool) : Bool :=
 (Region.ready md ops l).contains i && (Region.ready md ops l).all fun j => j == i || (j == p && !b)
def ready1z (md : Region.Mode) (ops : Array Oper) (p : Nat) (l : Array Bool) : Bool :=
 (Region.ready md ops l).any (fun _ => true) && (Region.ready md ops l).all fun j => j == p
section
variable {op : Oper} {dp : Tmp} {a0 : Act} {n n0 : Nat} {ob : Obj} {B : World → Prop}
theorem pend1 (i : Nat) (p : Nat) (dp : Tmp) (a0 : Act) (l : Bool → Array Bool) {op : Oper}
  (hi : ∀ b x w, AF1 n0 ob b x w → B w → wpOp P ops Q i (fun a' w' => (i ∉ ds → S w → S w') ∧ wpAnyLast P md ops Q S ds (n + pd b) ((l b).setIfInBounds i true) a' w') (a0.put (some dp) x) w)
  (hB : ∀ w w', B w → Below w.heap.size w w' → B w') (hS : ∀ w, B w → S w)
  (hop : ops[p]? = some op)
  (hp : ∀ (a : Act) w, (execOp a.eval op).run P w = .ok (.value (.pointer (some ⟨w.heap.size, 0, none⟩))) (w.alloc ob))
  (hr : ∀ b, ready1 md ops i p b (l b) = true)
  (hlp : (l false).setIfInBounds p true = l true)
  (hdp : op.dst = some dp)
  (hwp : ∀ a : Act, Region.wanted op (yielded ops a.tmps) = true) :
  ∀ b x w, AF1 n0 ob b x w → B w → wpAnyLast P md ops Q S ds (n + 1 + pd b) (l b) (a0.put (some dp) x) w := by
 have kt : ∀ x w, AF1 n0 ob true x w → B w → wpAnyLast P md ops Q S ds (n + 1 + pd true) (l true) (a0.put (some dp) x) w := by
  intro x w hJ hBw
  have h1 := hr true
  simp only [ready1, Bool.and_eq_true, List.all_eq_true, List.contains_iff_mem, Bool.or_eq_true, beq_iff_eq] at h1
  refine ⟨fun h0 => (by rw [h0] at h1; cases h1.1), fun j hj => ?_⟩
  rcases h1.2 j hj with rfl | ⟨-, hb⟩
  · exact hi true x w hJ hBw
  · cases hb
 intro b x w hJ hBw
 cases b with
 | true => exact kt x w hJ hBw
 | false =>
  have h1 := hr false
  simp only [ready1, Bool.and_eq_true, List.all_eq_true, List.contains_iff_mem, Bool.or_eq_true, beq_iff_eq] at h1
  refine ⟨fun h0 => (by rw [h0] at h1; cases h1.1), fun j hj => ?_⟩
  rcases h1.2 j hj with rfl | ⟨rfl, hb⟩
  · exact hi false x w hJ hBw
  · have e2 := hB _ _ hBw (below_alloc (Below.refl _ _) ob)
    refine wpOp_of hop ?_
    rw [if_pos (hwp _)]
    unfold Oper.wp
    rw [hp, Oper.upon_value, hdp, put_put, hlp]
    exact ⟨fun _ _ => hS _ e2, kt _ _ hJ.putp e2⟩
theorem pend1z_ (p : Nat) (dp : Tmp) (a0 : Act) (l : Bool → Array Bool) {op : Oper}
  (hi : ∀ x w, AF1 n0 ob true x w → B w → wpAnyLast P md ops Q S ds n (l true) (a0.put (some dp) x) w)
  (hB : ∀ w w', B w → Below w.heap.size w w' → B w') (hS : ∀ w, B w → S w)
  (hop : ops[p]? = some op)
  (hp : ∀ (a : Act) w, (execOp a.eval op).run P w = .ok (.value (.pointer (some ⟨w.heap.size, 0, none⟩))) (w.alloc ob))
  (hr : ready1z md ops p (l false) = true)
  (hlp : (l false).setIfInBounds p true = l true)
  (hdp : op.dst = some dp)
  (hwp : ∀ a : Act, Region.wanted op (yielded ops a.tmps) = true) :
  ∀ b x w, AF1 n0 ob b x w → B w → wpAnyLast P md ops Q S ds (n + pd b) (l b) (a0.put (some dp) x) w := by
 intro b x w hJ hBw
 cases b with
 | true => exact hi x w hJ hBw
 | false =>
  have h1 := hr
  simp only [ready1z, Bool.and_eq_true, List.any_eq_true, List.all_eq_true, beq_iff_eq] at h1
  refine ⟨fun h0 => (by rw [h0] at h1; obtain ⟨⟨_, h, -⟩, -⟩ := h1; cases h), fun j hj => ?_⟩
  obtain rfl := h1.2 j hj
  have e2 := hB _ _ hBw (below_alloc (Below.refl _ _) ob)
  refine wpOp_of hop ?_
  rw [if_pos (hwp _)]
  unfold Oper.wp
  rw [hp, Oper.upon_value, hdp, put_put, hlp]
  exact ⟨fun _ _ => hS _ e2, hi _ _ hJ.putp e2⟩
theorem pend1s {x : Value} {w : World} (dp : Tmp) (l : Bool → Array Bool) (i : Nat) (p : Nat) {op : Oper} {b : Bool} (hAF : AF1 n0 ob b x w) (hBw : B w)
  (hi : ∀ b x w, AF1 n0 ob b x w → B w → wpOp P ops Q i (fun a' w' => (i ∉ ds → S w → S w') ∧ wpAnyLast P md ops Q S ds (n + pd b) ((l b).setIfInBounds i true) a' w') (a0.put (some dp) x) w)
  (hB : ∀ w w', B w → Below w.heap.size w w' → B w') (hS : ∀ w, B w → S w)
  (h1 : a0.tmps[dp]? = some x := by rfl)
  (hop : ops[p]? = some op := by rfl)
  (hp : ∀ (a : Act) w, (execOp a.eval op).run P w = .ok (.value (.pointer (some ⟨w.heap.size, 0, none⟩))) (w.alloc ob) := by (intro a w; first | (go_simp; done) | (go_simp; rfl)))
  (hr : ∀ b, ready1 md ops i p b (l b) = true := by intro b; cases b <;> kernel_rfl)
  (hlp : (l false).setIfInBounds p true = l true := by rfl)
  (hdp : op.dst = some dp := by rfl)
  (hwp : ∀ a : Act, Region.wanted op (yielded ops a.tmps) = true := by intro a; rfl) : wpAnyLast P md ops Q S ds (n + 1 + pd b) (l b) a0 w := by
 have := pend1 i p dp a0 l hi hB hS hop hp hr hlp hdp hwp b x w hAF hBw
 rw [as_put1 h1] at this
 exact this
theorem pend1z {x : Value} {w : World} (dp : Tmp) (l : Bool → Array Bool) (p : Nat) {op : Oper} {b : Bool} (hAF : AF1 n0 ob b x w) (hBw : B w)
  (hi : ∀ x w, AF1 n0 ob true x w → B w → wpAnyLast P md ops Q S ds n (l true) (a0.put (some dp) x) w)
  (hB : ∀ w w', B w → Below w.heap.size w w' → B w') (hS : ∀ w, B w → S w)
  (h1 : a0.tmps[dp]? = some x := by rfl)
  (hop : ops[p]? = some op := by rfl)
  (hp : ∀ (a : Act) w, (execOp a.eval op).run P w = .ok (.value (.pointer (some ⟨w.heap.size, 0, none⟩))) (w.alloc ob) := by (intro a w; first | (go_simp; done) | (go_simp; rfl)))
  (hr : ready1z md ops p (l false) = true := by kernel_rfl)
  (hlp : (l false).setIfInBounds p true = l true := by rfl)
  (hdp : op.dst = some dp := by rfl)
  (hwp : ∀ a : Act, Region.wanted op (yielded ops a.tmps) = true := by intro a; rfl) : wpAnyLast P md ops Q S ds (n + pd b) (l b) a0 w := by
 have := pend1z_ p dp a0 l hi hB hS hop hp hr hlp hdp hwp b x w hAF hBw
 rw [as_put1 h1] at this
 exact this
end
theorem pev {X : Act → World → Prop} {oi : Oper} {a : Act} {w w1 : World} {v : Value} (i : Nat) (d : Tmp) (hrun : (execOp a.eval oi).run P w = .ok (.value v) w1) (hK : S w1 ∧ X (a.put (some d) v) w1)
  (hi : ops[i]? = some oi := by rfl) (hw : Region.wanted oi (yielded ops a.tmps) = true := by rfl) (hN : oi.dst = some d := by rfl) : wpOp P ops Q i (fun a' w' => (i ∉ ds → S w → S w') ∧ X a' w') a w := by
 refine wpOp_of hi ?_
 rw [if_pos hw]
 unfold Oper.wp
 rw [hrun, Oper.upon_value, hN]
 exact ⟨fun _ _ => hK.1, hK.2⟩
theorem plst {X : Act → World → Prop} {oi : Oper} {a : Act} {w : World} (i : Nat) (h : wpList P ops (fun e a' w' => match e with | .normal => (i ∉ ds → S w → S w') ∧ X a' w' | e => Q e a' w') [oi] a w)
  (hi : ops[i]? = some oi := by rfl) (hw : Region.wanted oi (yielded ops a.tmps) = true := by rfl) (hg : oi.guard = none := by rfl) : wpOp P ops Q i (fun a' w' => (i ∉ ds → S w → S w') ∧ X a' w') a w := by
 unfold wpOp
 rw [hi]
 show if Region.wanted oi (yielded ops a.tmps) = true then _ else _
 rw [if_pos hw]
 exact op_of_list hg h
theorem lst {oi : Oper} {fuel : Nat} {l : Array Bool} {a : Act} {w : World} (i : Nat) (h : wpList P ops (fun e a' w' => match e with | .normal => (S w → S w') ∧ wpAnyLast P md ops Q S ds fuel (l.setIfInBounds i true) a' w' | e => Q e a' w') [oi] a w)
  (hi : ops[i]? = some oi := by rfl) (hr : readyB md ops l (l.setIfInBounds i true) i = true := by kernel_rfl) (hw : Region.wanted oi (yielded ops a.tmps) = true := by rfl) (hg : oi.guard = none := by rfl) : wpAnyLast P md ops Q S ds (fuel + 1) l a w := by
 simp only [readyB, Bool.and_eq_true, beq_iff_eq] at hr
 refine wpAnyLast_all hr.1 (by simp) fun j hj => ?_
 rw [List.mem_singleton] at hj
 subst hj
 unfold wpOp
 rw [hi]
 show if Region.wanted oi (yielded ops a.tmps) = true then _ else _
 rw [if_pos hw]
 rcases op_of_list hg h with h | h
 · exact .inl (Oper.wp_mono (fun a w h => ⟨fun _ => h.1, h.2⟩) h)
 · exact .inr h
end
end Go.Proofs.YtihbebbabjklkaaGreatDoor.PA
