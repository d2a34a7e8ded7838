import Derived.Test.YtihbebbabjklkaaGreatDoorAG10
set_option maxHeartbeats 8000000
set_option maxRecDepth 100000
set_option linter.unusedVariables false
set_option linter.unusedVariables false
set_option linter.unusedSimpArgs false
namespace Go.Proofs.YtihbebbabjklkaaGreatDoor.PA
open Go.RowKit Go.Shelf Go.Proofs.WWords Go.Proofs.WLast Go.Proofs.WMore
theorem scalar_ok {α : Type} {enc : α → Value} {h1 : ∀ x, (enc x).oneCell' = true} {e base : Nat} {w : World} {ok ok' : Nat → Prop} {v : Value} {xs : List α} (h : Kd.R (Kd.scalar enc h1) e w base ok v xs) (hok : ∀ k, v.ownBlock = some k → ok' k) : Kd.R (Kd.scalar enc h1) e w base ok' v xs :=
 ⟨hok, h.2.imp_ (fun _ _ hp => hp)⟩
theorem apT {P : Program} {ops : Array Oper} {Q : Exit → Act → World → Prop} {rest : List Oper} {o : Oper} {a : Act} {W : World} {base g n c : Nat} {v u : Value} {xs ys : List Int} {ts : List ByteArray} {s x : Operand} {t : TypeId} (p : Int) {N : Option Tmp}
  (HT : Z0 (Kd.R (Kd.int .i64) 3 W base (fun _ => True) v xs)) (HK : Z0 (Kd.R (Kd.int .i64) 3 W base (fun _ => True) u ys)) (hd : Z0 (∀ k, v.ownBlock = some k → u.ownBlock ≠ some k)) (HO : Z0 (Kd.R Kd.string 23 W base (fun _ => True) (.slice (some ⟨g, 0, none⟩) n c) ts)) (hn : 0 < ts.length) (hbase : base ≤ W.heap.size) (hl : xs.length < 1000000)
  (ho : o.op = .call { callee := .builtin .append, args := #[s, x], argTypes := #[t, t] }) (ht : P.underlying t = some (.slice 3)) (hi : (P.info? 3).map (fun i => (i.zero, i.size, i.bytes)) = some (some (.int .i64 0), 1, 8))
  (K : ∀ v1 w1, Z0 (Kd.R (Kd.int .i64) 3 w1 base (fun _ => True) v1 (xs ++ [p])) → Z0 (Kd.R (Kd.int .i64) 3 w1 base (fun _ => True) u ys) → Z0 (∀ k, v1.ownBlock = some k → u.ownBlock ≠ some k) → Z0 (Kd.R Kd.string 23 w1 base (fun _ => True) (.slice (some ⟨g, 0, none⟩) n c) ts) → Below base W w1 → wpList P ops Q rest (a.put N v1) w1)
  (hdN : o.dst = N := by rfl) (hg : o.guard = none := by rfl) (hs : a.eval s = v := by rfl) (hx : a.eval x = .slice (some ⟨W.heap.size, 0, none⟩) 1 1 := by rfl) : wpList P ops Q (o :: rest) a (W.alloc (.cells #[.int .i64 p] 3)) := by
  refine Kd.R_append (Kd.int .i64) (w0 := W) base hg s x t 3 (.int .i64 0) 8 ho ht hi rfl (by decide) (by omega) v xs p [.int .i64 p] (fun _ => True) (fun _ => False) hs hx rfl (fun _ h => h.elim) (fun _ _ => trivial) HT.out (Below.refl _ _) hbase (by omega) ?_
  intro v1 w1 h1 h2 h3 h4
  rw [hdN]
  have hK : Kd.R (Kd.int .i64) 3 W base (fun k => True ∧ some k ≠ v.ownBlock) u ys := scalar_ok HK.out fun k hk => ⟨trivial, fun e => hd.out k e.symm hk⟩
  have hK2 := Kd.R_after hK h3 h4
  obtain ⟨g', c', e, -, -, cells, hc⟩ := Kd.R_form HO.out hn
  have e : g = g' := by injection e with e; injection e with e; injection e
  subst e
  have hne := Kd.R_ne HT.out hc (by decide)
  have hO2 : Kd.R Kd.string 23 W base (fun k => k = g) (.slice (some ⟨g, 0, none⟩) n c) ts := scalar_ok HO.out fun k hk => by
   simp [Value.ownBlock] at hk
   exact hk.symm
  have hO3 := Kd.R_grown hO2 h3 (fun k hk => by rw [hk]; exact hne)
  exact K v1 w1 ⟨h1⟩ ⟨Kd.R_mono hK2 (fun _ _ => trivial)⟩ ⟨fun k hk hu => (hK2.1 k hu).2 hk.symm⟩ ⟨Kd.R_mono hO3 (fun _ _ => trivial)⟩ h2
theorem mkS {ops : Array Oper} {Q : Exit → Act → World → Prop} {rest : List Oper} {o : Oper} {a : Act} {W : World} (n : Nat) {N : Tmp} {t : TypeId} {x y : Operand} (hop : o.op = .makeSlice t x y) (hl : n ≤ 100000) (h0 : 0 < n)
  (K : ∀ g c w', Below W.heap.size W w' → W.heap.size ≤ g → Z0 (Kd.R Kd.string 23 w' W.heap.size (fun _ => True) (.slice (some ⟨g, 0, none⟩) n c) (List.replicate n ⟨#[]⟩)) → wpList Tryz.prog ops Q rest (a.put (some N) (.slice (some ⟨g, 0, none⟩) n c)) w')
  (ht : Tryz.prog.underlying t = some (.slice 23)) (hd : o.dst = some N := by rfl) (hg : o.guard = none := by rfl) (hx : a.eval x = .int .i64 n := by rfl) (hy : a.eval y = .int .i64 n := by rfl) : wpList Tryz.prog ops Q (o :: rest) a W := by
  refine Kd.R_make Kd.string _ 23 hg (N := N) hd t x y hop n hx hy ht (.string ⟨#[]⟩) 16 infoRat rfl (by decide) (by omega) ⟨#[]⟩ (ok := fun _ => True) (okp := fun _ => True) rfl (fun _ hk => hk) trivial (by omega) (by rw [Int.toNat_natCast]; omega) (Below.refl _ _) (Nat.le_refl _) ?_
  intro v w' ho hb _ _
  rw [Int.toNat_natCast] at ho
  obtain ⟨g, c, rfl, hgb, -, -, -⟩ := Kd.R_form ho (by simpa using h0)
  rw [hd]
  rw [List.length_replicate] at ho ⊢
  exact K g c w' hb hgb ⟨ho⟩
def othL (n s : Nat) (pt : List ByteArray) (k : Nat) : List ByteArray := (List.range n).map fun t => if ta n s t < k then pt.getD (ta n s t) ⟨#[]⟩ else ⟨#[]⟩
theorem othL_zero (n s : Nat) (pt : List ByteArray) : othL n s pt 0 = List.replicate n ⟨#[]⟩ := by
 unfold othL
 apply List.ext_getElem
 · simp
 · intro i _ _; simp
theorem othL_succ (n s : Nat) (pt : List ByteArray) (k : Nat) (hk : k < n) : (othL n s pt k).set (sg n s k) (pt.getD k ⟨#[]⟩) = othL n s pt (k + 1) := by
 apply List.ext_getElem
 · simp [othL]
 · intro t h1 h2
   have ht : t < n := by simpa [othL] using h2
   rw [List.getElem_set]
   simp only [othL, List.getElem_map, List.getElem_range]
   by_cases hE : sg n s k = t
   · rw [if_pos hE, ← hE, ta_sg hk, if_pos (by omega)]
   · rw [if_neg hE]
     have hne : ta n s t ≠ k := fun h => hE (by rw [← h, sg_ta ht])
     by_cases hlt : ta n s t < k
     · rw [if_pos hlt, if_pos (by omega)]
     · rw [if_neg hlt, if_neg (by omega)]
theorem othL_all (n s : Nat) (ps : List Rat) (hn : 0 < n) (hl : ps.length = n) : othL n s (ps.map Sv.rtxt) n = ((List.range n).map fun t => ps.getD (ta n s t) 0).map Sv.rtxt := by
 unfold othL
 rw [List.map_map]
 refine List.map_congr_left fun t ht => ?_
 have h : ta n s t < ps.length := by rw [hl]; exact ta_lt hn
 rw [if_pos (ta_lt hn)]
 show _ = Sv.rtxt (ps.getD (ta n s t) 0)
 rw [List.getD_eq_getElem?_getD, List.getD_eq_getElem?_getD, List.getElem?_map, List.getElem?_eq_getElem h]
 rfl
theorem range_snocI (G : Nat → Int) (j : Nat) : (List.range (j + 1)).map G = (List.range j).map G ++ [G j] := by rw [List.range_succ, List.map_append]; rfl
theorem LinTurns_true (A0 : Option Addr) (c0 : Nat) (l0 : List ByteArray) (s0 : ByteArray) (A1 : Option Addr) (c1 : Nat) (l1 : List ByteArray) (i2 : Int) (w : World) (hL : LaidW w) (w0 : l0.length ≤ c0) (C0 : Z0 (Kd.string.C w A0 l0.length l0)) (w1 : l1.length ≤ c1) (C1 : Z0 (Kd.string.C w A1 l1.length l1))
  (k0 : (∀ s ∈ l0, s.size ≤ 1048576) ∧ s0.size ≤ 1048576) (k1 : ∀ s ∈ l1, s.size ≤ 1048576) (k2 : 0 ≤ i2 ∧ i2 < 256) :
  Calls Tryz.prog 7 #[.agg #[.slice A0 l0.length c0, .string s0], .slice A1 l1.length c1, .int .u8 i2] w fun e w' => e = .returned (.bool true) ∧ Below w.heap.size w w' := by
 have HB := Z0.mk (Below.refl w.heap.size w)
 have hu := Tryz.underlying25
 have ht := Tryz.underlying22
 have hti := Tryz.underlying35
 obtain ⟨b, hb⟩ : ∃ b, Z0 (rightB l1 [(A0, c0, l0, s0)] = b) := ⟨_, ⟨rfl⟩⟩
 have hO : ∀ x ∈ [((A0, c0, l0, s0) : LinX)], (∀ s ∈ x.2.2.1, s.size ≤ 10000000000) ∧ x.2.2.2.size ≤ 10000000000 := fun x hx => by
  rw [List.mem_singleton.1 hx]
  exact ⟨fun s hs => by have := k0.1 s hs; omega, by have := k0.2; show s0.size ≤ _; omega⟩
 have hOp : ∀ s ∈ l1, s.size ≤ 10000000000 := fun s hs => by have := k1 s hs; omega
 have D0 := C0
 have D1 := C1
 obtain ⟨sh, rfl⟩ := Int.eq_ofNat_of_zero_le k2.1
 have hsh : sh < 256 := by have := k2.2; omega
 clear k0 k1 k2
 go_enter Tryz.func7, Tryz.ntmps7
 go_upto_region 1 with (fail)
 refine al1 ?_
 intro W hb' B0
 replace C0 := Z0.mk (Kd.C_below C0.out hb')
 replace C1 := Z0.mk (Kd.C_below C1.out hb')
 replace HB := fB HB hb'
 clear hb'
 obtain ⟨p0, p1, -, -⟩ := b2 B0
 cases b with
 | false =>
  go_wp2_with (first
   | ((with_reducible refine gd_ 24 rfl ?_); refine valE (.slice (some ⟨W.heap.size, 0, none⟩) 1 1) (W.alloc (.cells #[.slice A0 l0.length c0, .string s0] 25)) ?_; intro w1 hw1; have hbx := below_alloc (Below.refl W.heap.size W) (.cells #[.slice A0 l0.length c0, .string s0] 25); have BX := Z0.mk (blk_new W (.cells #[.slice A0 l0.length c0, .string s0] 25)); rw [← hw1] at hbx BX; clear hw1;  replace C0 := Z0.mk (Kd.C_below C0.out hbx); replace C1 := Z0.mk (Kd.C_below C1.out hbx); replace HB := fB HB hbx; clear hbx p0 p1)
   | ((with_reducible refine gc_ 20 rfl ?_); refine gL 25 Tryz.func20 (right_ok A1 c1 l1 W.heap.size [(A0, c0, l0, s0)] _ _ BX (fun x hx => by rw [List.mem_singleton.1 hx]; exact C0.out) C1 (by simp) (by simp) hO hOp hb) ?_; rintro _ w' ⟨rfl, hb⟩; refine ⟨_, rfl, ?_⟩; clear BX; replace HB := fB HB hb; clear hb)
   | (refine cG rfl ?_; intro w' hb; replace HB := fB HB hb; clear hb))
  go_ret
  exact ⟨rfl, HB.out⟩
 | true =>
 by_cases hz : l1.length = 0
 · have cz : ((l1.length : Int) == 0) = true := beq_iff_eq.mpr (by omega)
   clear hz
   go_wp2_with (first
    | ((with_reducible refine gd_ 24 rfl ?_); refine valE (.slice (some ⟨W.heap.size, 0, none⟩) 1 1) (W.alloc (.cells #[.slice A0 l0.length c0, .string s0] 25)) ?_; intro w1 hw1; have hbx := below_alloc (Below.refl W.heap.size W) (.cells #[.slice A0 l0.length c0, .string s0] 25); have BX := Z0.mk (blk_new W (.cells #[.slice A0 l0.length c0, .string s0] 25)); rw [← hw1] at hbx BX; clear hw1;  replace C0 := Z0.mk (Kd.C_below C0.out hbx); replace C1 := Z0.mk (Kd.C_below C1.out hbx); replace HB := fB HB hbx; clear hbx p0 p1)
    | ((with_reducible refine gc_ 20 rfl ?_); refine gL 25 Tryz.func20 (right_ok A1 c1 l1 W.heap.size [(A0, c0, l0, s0)] _ _ BX (fun x hx => by rw [List.mem_singleton.1 hx]; exact C0.out) C1 (by simp) (by simp) hO hOp hb) ?_; rintro _ w' ⟨rfl, hb⟩; refine ⟨_, rfl, ?_⟩; clear BX; replace HB := fB HB hb; clear hb)
    | (refine cG rfl ?_; intro w' hb; replace HB := fB HB hb; clear hb))
   go_ret
   exact ⟨rfl, HB.out⟩
 have cz : ((l1.length : Int) == 0) = false := beq_eq_false_iff_ne.mpr (by omega)
 have hz' := Z0.mk hz
 clear hz
 go_upto_region 4 with (first
   | ((with_reducible refine gd_ 24 rfl ?_); refine valE (.slice (some ⟨W.heap.size, 0, none⟩) 1 1) (W.alloc (.cells #[.slice A0 l0.length c0, .string s0] 25)) ?_; intro w1 hw1; have hbx := below_alloc (Below.refl W.heap.size W) (.cells #[.slice A0 l0.length c0, .string s0] 25); have BX := Z0.mk (blk_new W (.cells #[.slice A0 l0.length c0, .string s0] 25)); rw [← hw1] at hbx BX; clear hw1; replace B0 := fk B0 hbx; replace C0 := Z0.mk (Kd.C_below C0.out hbx); replace C1 := Z0.mk (Kd.C_below C1.out hbx); replace HB := fB HB hbx; clear hbx p0 p1; obtain ⟨p0, p1, -, -⟩ := b2 B0)
   | ((with_reducible refine gc_ 20 rfl ?_); refine gL 25 Tryz.func20 (right_ok A1 c1 l1 W.heap.size [(A0, c0, l0, s0)] _ _ BX (fun x hx => by rw [List.mem_singleton.1 hx]; exact C0.out) C1 (by simp) (by simp) hO hOp hb) ?_; rintro _ w' ⟨rfl, hb⟩; refine ⟨_, rfl, ?_⟩; clear BX; replace B0 := fk B0 hb; replace HB := fB HB hb; clear hb p0 p1; obtain ⟨p0, p1, -, -⟩ := b2 B0))
 obtain ⟨hR, hN⟩ := of_rightB hb.out
 obtain ⟨hl0, hc0⟩ := hR _ List.mem_cons_self
 obtain ⟨a0, qs, q, rfl, rfl, hq, hq1⟩ := of_chkL hc0
 obtain ⟨ps, rfl, hp⟩ := of_numsC hN
 have f0 : fine qs q := ⟨by simpa using a0, hq, hq1⟩
 have hl0 : qs.length = ps.length := by simpa using hl0
 have o0 : ∀ s ∈ qs.map Sv.rtxt, Okt s := okt_map fun x hx => by have := hq x hx; omega
 have o2 : ∀ s ∈ ps.map Sv.rtxt, Okt s := okt_map fun x hx => by have := hp x hx; omega
 have o3 : Okt (Sv.rtxt q) := Okt.q (by omega)
 have m2 : (ps.map Sv.rtxt).length ≤ 32 := by rw [List.length_map, ← hl0]; exact f0.1
 have m0 : (qs.map Sv.rtxt).length ≤ 1000 := by rw [List.length_map]; have := f0.1; omega
 clear hO hOp hb
 obtain ⟨n, hn2⟩ : ∃ n, (ps.map Sv.rtxt).length = n := ⟨_, rfl⟩
 have hn0 : (qs.map Sv.rtxt).length = n := by rw [← hn2, List.length_map, List.length_map, hl0]
 rw [hn0] at D0 B0 m0
 rw [hn2] at D1 m2 hz'
 simp only [hn0, hn2]
 have hz := hz'.out
 have e2 : n = ps.length := by rw [← hn2, List.length_map]
 replace hn0 := Z0.mk hn0.symm
 replace hn2 := Z0.mk hn2.symm
 clear hR hN hc0 a0 C0 C1 cz p0 p1 hz'
 replace hl0 := Z0.mk hl0
 replace e2 := Z0.mk e2
 generalize hwm : w' = wm at *
 clear hwm
 have B0m := B0
 go_upto_region 6 with ((with_reducible refine gd_ 33 rfl ?_); refine mkS n rfl (by omega) (by omega) ?_ ht; intro g co w5 hb hgb HO; replace B0 := fk B0 hb; have HZ := Z0.mk hb; clear hb)
 have hn0' : 0 < n := by omega
 rw [← othL_zero n sh (ps.map Sv.rtxt)] at HO
 obtain ⟨pt, hpt⟩ : ∃ pt, ps.map Sv.rtxt = pt := ⟨_, rfl⟩
 rw [hpt] at HO D1 hn2 o2
 replace hpt := Z0.mk hpt
 go_wp2
 go_loopw [35, 8, 9] (fun iv tv bv wr => ∃ j : Nat, j ≤ n ∧ iv = .int .i64 j ∧ Z0 (Kd.R (Kd.int .i64) 3 wr wm.heap.size (fun _ => True) tv ((List.range j).map fun i => (sg n sh i : Int))) ∧ Z0 (Kd.R (Kd.int .i64) 3 wr wm.heap.size (fun _ => True) bv ((List.range j).map fun i => (ta n sh i : Int))) ∧ Z0 (∀ k, tv.ownBlock = some k → bv.ownBlock ≠ some k) ∧ Z0 (Kd.R Kd.string 23 wr wm.heap.size (fun _ => True) (.slice (some ⟨g, 0, none⟩) n co) (othL n sh pt j)) ∧ Z0 (Below wm.heap.size wm wr))
  (fun iv _ _ _ => n - (Go.RowKit.intOf iv).toNat)
 case atStart => exact ⟨0, by omega, rfl, ⟨Kd.R_nil _ _ _ _ _⟩, ⟨Kd.R_nil _ _ _ _ _⟩, ⟨fun k hk => by simp [Value.ownBlock] at hk⟩, HO, HZ⟩
 clear HO HZ
 obtain ⟨j, hj, rfl, HT, HK, hdd, HO, HZ⟩ := hrel
 rcases Nat.lt_or_ge j n with h4 | h4
 · have c4 : decide ((j : Int) < n) = true := decide_eq_true (by omega)
   have es : ((j : Int) + sh) % n = (sg n sh j : Int) := by unfold sg; rw [Int.natCast_emod, Int.natCast_add]
   have hmod := Nat.mod_lt sh hn0'
   have et : ((j : Int) + n - sh) % n = (ta n sh j : Int) := by
    have e1 : ((j : Int) + n - sh % n) % n = (ta n sh j : Int) := by
     unfold ta
     rw [Int.natCast_emod, Int.natCast_sub (by omega), Int.natCast_add, Int.natCast_emod]
    rw [← e1]
    simp
   have esl := sg_lt (n := n) (s := sh) (i := j) hn0'
   replace es := Z0.mk es
   replace et := Z0.mk et
   replace esl := Z0.mk esl
   have hol : (othL n sh pt j).length = n := by unfold othL; simp
   replace hol := Z0.mk hol
   have hol0 : 0 < (othL n sh pt j).length := by rw [hol.out]; exact hn0'
   have hlj : ((List.range j).map fun i => (sg n sh i : Int)).length < 1000000 := by simp; omega
   have hlk : ((List.range j).map fun i => (ta n sh i : Int)).length < 1000000 := by simp; omega
   go_upto_region 10 with ((with_reducible refine gd_ 46 rfl ?_); refine apT (((j : Int) + sh) % n) HT HK hdd HO hol0 (below_size HZ.out) hlj rfl hti info3 ?_; intro v1 w6 HT' HK' hdd' HO' hb; rw [es.out] at HT'; replace HT := HT'; replace HK := HK'; replace hdd := hdd'; replace HO := HO'; replace HZ := Z0.mk (HZ.out.trans hb); clear HT' HK' hdd' HO' hb)
   have hdd2 : Z0 (∀ k, _ → v1.ownBlock ≠ some k) := ⟨fun k hk hv => hdd.out k hv hk⟩
   go_upto_region 11 with ((with_reducible refine gd_ 59 rfl ?_); refine apT (((j : Int) + n - sh) % n) HK HT hdd2 HO hol0 (below_size HZ.out) hlk rfl hti info3 ?_; intro v2 w7 HK' HT' hdd' HO' hb; rw [et.out] at HK'; replace HT := HT'; replace HK := HK'; replace hdd := Z0.mk (fun k hk hv => hdd'.out k hv hk); replace HO := HO'; replace HZ := Z0.mk (HZ.out.trans hb); clear HT' HK' hdd' HO' hb hdd2)
   have hpj : j < pt.length := by have := hn2.out; omega
   obtain ⟨x, hx⟩ : ∃ x, pt[j] = x := ⟨_, rfl⟩
   obtain ⟨ad, rfl, hxx, x1, x2⟩ := asI (Kd.C_below (Kd.C_below D1.out HB.out) HZ.out) (j : Int) (by omega) (by omega)
   rw [Int.toNat_natCast, show rdOf ByteArray.empty pt (j : Int) = x by rw [← hx]; simp [rdOf, hpj]] at hxx
   rw [← range_snocI (fun i => (sg n sh i : Int))] at HT
   rw [← range_snocI (fun i => (ta n sh i : Int))] at HK
   obtain ⟨X8, d8, rfl, HT2⟩ := R_cut (m := j + 1) HT (by simp)
   obtain ⟨g8, e8, ky, -, y1, y2⟩ := ownF HT2 (j : Int) (by omega) (by omega)
   subst e8
   rw [Int.toNat_natCast, rd_get _ j (by simp), List.getElem_map, List.getElem_range] at ky
   have sl := esl.out
   have y3 : ((j : Int) < (j : Int) + 1) = True := eq_true (by omega)
   obtain ⟨go', e4, -, -, z1, z2⟩ := ownS HO (sg n sh j : Int) (by omega) (by omega)
   obtain rfl : g = go' := by injection e4 with e4; injection e4
   clear e4
   have hdr := (Below.refl w7.heap.size w7).drew
   have ka8 : (Addr.mk g8 0 none).add j = ⟨g8, j, none⟩ := add_plain g8 j
   have kao : (Addr.mk g 0 none).add (sg n sh j) = ⟨g, sg n sh j, none⟩ := add_plain g _
   clear HT
   refine start_ (n := 11) (S := fun u => u.cell? ⟨g8, j, none⟩ = some (.int .i64 (sg n sh j)) ∧ u.cell? (ad.add j) = some (.string x)) (ds := [10]) _ (by kernel_rfl) rfl rfl ⟨ky, hxx⟩ (fun hHeld => ?_)
   refine tp 0 60 ?_
   refine tp 1 61 ?_
   refine tp 2 62 ?_
   refine tp 3 63 ?_
   refine tk 4 64 (by exact hHeld) ?_
   refine tp 5 65 ?_
   refine tp 6 66 ?_
   refine tp 7 67 ?_
   refine tk 8 68 (by exact hHeld) ?_
   refine tp 9 69 ?_
   have HOd := Z0.mk (Kd.R_below HO.out hdr)
   have HTd := Z0.mk (Kd.R_below HT2.out hdr)
   have HKd := Z0.mk (Kd.R_below HK.out hdr)
   have HZd := Z0.mk (below_step HZ.out hdr)
   clear hHeld HO HT2 HK HZ ky hxx
   generalize w7.drew = W4 at *
   obtain ⟨go', e4, k0, k1, -, -⟩ := ownS HOd (sg n sh j : Int) (by omega) (by omega)
   obtain rfl : g = go' := by injection e4 with e4; injection e4
   clear e4 hdr
   rw [Int.toNat_natCast] at k0 k1
   refine stL 10 ?_
   refine done_ (by kernel_rfl) ?_
   have hR5 := Kd.R_putg HOd.out (sg n sh j : Int) x
   rw [Int.toNat_natCast, show x = pt.getD j ⟨#[]⟩ by rw [List.getD_eq_getElem?_getD, List.getElem?_eq_getElem hpj, Option.getD_some, hx], othL_succ n sh pt j h4, ← show x = pt.getD j ⟨#[]⟩ by rw [List.getD_eq_getElem?_getD, List.getElem?_eq_getElem hpj, Option.getD_some, hx]] at hR5
   obtain ⟨gq, cq, eq', -, -, cells, hcells⟩ := Kd.R_form HOd.out hol0
   obtain rfl : g = gq := by injection eq' with eq' _ _; injection eq' with eq'; injection eq'
   have gb := Kd.R_base HOd.out g rfl
   have HT6 := Z0.mk (Kd.R_mono (Kd.R_far (p := ⟨g, sg n sh j, none⟩) (Kd.R_types HTd.out hcells (by decide)) (fun _ hk => hk.2) (.string x)) (fun _ _ => trivial))
   have HK6 := Z0.mk (Kd.R_mono (Kd.R_far (p := ⟨g, sg n sh j, none⟩) (Kd.R_types HKd.out hcells (by decide)) (fun _ hk => hk.2) (.string x)) (fun _ _ => trivial))
   have HO6 := Z0.mk hR5.1
   have HZ6 := Z0.mk (below_set (g := g) (j := sg n sh j) (v := .string x) HZd.out gb)
   clear hR5 HTd HKd HOd HZd k0 k1
   go_wp2
   exact ⟨⟨j + 1, by omega, by simp, HT6, HK6, hdd, HO6, HZ6⟩, by simp [Go.RowKit.intOf]; omega⟩
 obtain rfl : j = n := by omega
 have c4 : decide ((j : Int) < j) = false := decide_eq_false (by omega)
 have hP := hp
 obtain ⟨TL, hTL⟩ : ∃ TL, (List.range j).map (fun i => (sg j sh i : Int)) = TL := ⟨_, rfl⟩
 obtain ⟨KL, hKL⟩ : ∃ KL, (List.range j).map (fun i => (ta j sh i : Int)) = KL := ⟨_, rfl⟩
 obtain ⟨TQ, hTQ⟩ : ∃ TQ, (List.range j).map (fun t => qs.getD (ta j sh t) 0) = TQ := ⟨_, rfl⟩
 obtain ⟨TP, hTP⟩ : ∃ TP, (List.range j).map (fun t => ps.getD (ta j sh t) 0) = TP := ⟨_, rfl⟩
 have lq : qs.length = j := hl0.out.trans e2.out.symm
 have gT : ∀ i, i < j → TL.getD i 0 = (sg j sh i : Int) := fun i hi => by rw [← hTL, List.getD_eq_getElem?_getD, List.getElem?_eq_getElem (by simpa using hi)]; simp
 have gK : ∀ i, i < j → KL.getD i 0 = (ta j sh i : Int) := fun i hi => by rw [← hKL, List.getD_eq_getElem?_getD, List.getElem?_eq_getElem (by simpa using hi)]; simp
 have lT : TL.length = j := by rw [← hTL]; simp
 have lK : KL.length = j := by rw [← hKL]; simp
 have lQ : TQ.length = j := by rw [← hTQ]; simp
 have lP : TP.length = j := by rw [← hTP]; simp
 have tT : tosOk TL j = true := List.all_eq_true.2 fun k hk => by
  rw [← hTL] at hk
  obtain ⟨i, hi, rfl⟩ := List.mem_map.1 hk
  have := sg_lt (s := sh) (i := i) hn0'
  exact (Bool.and_eq_true _ _).mpr ⟨decide_eq_true (by omega), decide_eq_true (by omega)⟩
 have tK : tosOk KL j = true := List.all_eq_true.2 fun k hk => by
  rw [← hKL] at hk
  obtain ⟨i, hi, rfl⟩ := List.mem_map.1 hk
  have := ta_lt (s := sh) (i := i) hn0'
  exact (Bool.and_eq_true _ _).mpr ⟨decide_eq_true (by omega), decide_eq_true (by omega)⟩
 have mem_turn : ∀ (l : List Rat) (m : Nat), l.length = j → (∀ x ∈ l, ndR x ≤ m) → ∀ x ∈ (List.range j).map (fun t => l.getD (ta j sh t) 0), ndR x ≤ m := fun l m hl h x hx => by
  obtain ⟨t, ht, rfl⟩ := List.mem_map.1 hx
  have hlt : ta j sh t < l.length := by rw [hl]; exact ta_lt hn0'
  rw [List.getD_eq_getElem?_getD, List.getElem?_eq_getElem hlt]
  exact h _ (List.getElem_mem _)
 have fq : fine TQ q := ⟨by rw [lQ]; exact m2, by rw [← hTQ]; exact mem_turn qs 100 lq f0.2.1, f0.2.2⟩
 have fp : ∀ x ∈ TP, ndR x ≤ 100 := by rw [← hTP]; exact mem_turn ps 100 e2.out.symm hP
 have R1 : renS (qs.map Sv.rtxt) (Sv.rtxt q) TL j = (TQ.map Sv.rtxt, Sv.rtxt q, 0) := by
  rw [renS_map f0 TL j m2 (by rw [lT, lq]) tT, lq, turn_there j sh hn0' TL gT qs, hTQ, fin_pos fq]
 have R2 : renS (TQ.map Sv.rtxt) (Sv.rtxt q) KL j = (qs.map Sv.rtxt, Sv.rtxt q, 0) := by
  rw [renS_map fq KL j m2 (by rw [lK, lQ]) tK, lQ, ← hTQ, turn_back j sh hn0' KL gK qs lq, fin_pos f0]
 obtain ⟨X, hX⟩ : ∃ X, evR qs q ps = X := ⟨_, rfl⟩
 have E0 := evalS_map (ps := ps) f0 hP hl0.out.symm
 have E1 := evalS_map (ps := TP) fq fp (by rw [lP, lQ])
 rw [hX] at E0
 rw [← hTQ, ← hTP, evR_turn j sh hn0' qs ps q lq e2.out.symm, hX, hTQ, hTP] at E1
 obtain ⟨vx, zx, hvx⟩ : ∃ v z, (if ndR X ≤ 100 then (Sv.rtxt X, (0 : Int)) else (⟨#[]⟩, 10)) = (v, z) := ⟨_, _, rfl⟩
 rw [hvx] at E0 E1
 have oq : ∀ s ∈ TQ.map Sv.rtxt, Okt s := okt_map fun x hx => by have := fq.2.1 x hx; omega
 have op : ∀ s ∈ TP.map Sv.rtxt, Okt s := okt_map fun x hx => by have := fp x hx; omega
 rw [← hpt.out, othL_all j sh ps hn0' e2.out.symm, hTP] at HO
 rw [hTL] at HT
 rw [hKL] at HK
 rw [hpt.out] at E0
 have kP : j = (TP.map Sv.rtxt).length := by rw [List.length_map, lP]
 have kQ : j = (TQ.map Sv.rtxt).length := by rw [List.length_map, lQ]
 obtain ⟨X8, d8, rfl, HT2⟩ := R_cut HT lT
 obtain ⟨X9, d9, rfl, HK2⟩ := R_cut HK lK
 have CT := Z0.mk (Kd.R_reads' HT2.out).2.2
 have CK := Z0.mk (Kd.R_reads' HK2.out).2.2
 have CO := Z0.mk (Kd.R_reads' HO.out).2.2
 rw [lT] at CT
 rw [lK] at CK
 rw [← kP] at CO
 have HBz := Z0.mk (below_step HB.out HZ.out)
 replace B0 := Z0.mk (blk_below B0m.out HZ.out)
 clear HT HK HT2 HK2 hvx hX mem_turn gT gK hdd hp
 replace R1 := Z0.mk R1
 replace R2 := Z0.mk R2
 replace E0 := Z0.mk E0
 replace E1 := Z0.mk E1
 replace kP := Z0.mk kP
 replace kQ := Z0.mk kQ
 replace lT := Z0.mk lT.symm
 replace lK := Z0.mk lK.symm
 replace HB := HBz
 clear HZ HO HBz B0m
 obtain ⟨p0, p1, -, -⟩ := b2 B0
 have T12 := fun (w' : World) (hL : LaidW w') (C0 : Z0 (Kd.string.C w' A0 j (qs.map Sv.rtxt))) (CT : Z0 (Kd.C (Kd.int .i64) w' X8 j TL)) => (Rename_ok A0 X8 j c0 j d8 (qs.map Sv.rtxt) (Sv.rtxt q) TL j w' hL C0 CT hn0.out lT.out m0 m0 o0 o3).mono fun e w' h => h.v R1.out kQ.out.symm
 go_upto_region 14 with (first
  | ((with_reducible refine gc_ 18 rfl ?_); refine gL 75 Tryz.func18 (T12 _ (hL.below HB.out) ⟨Kd.C_below D0.out HB.out⟩ CT) ?_; rintro _ w12 ⟨X12, d12, rfl, hd12, C12, hb⟩; refine ⟨_, rfl, ?_⟩; replace C12 := Z0.mk C12; replace B0 := fk B0 hb; replace CO := Z0.mk (Kd.C_below CO.out hb); replace CT := Z0.mk (Kd.C_below CT.out hb); replace CK := Z0.mk (Kd.C_below CK.out hb); replace HB := fB HB hb; clear hb p0 p1)
  | ((with_reducible refine gd_ 12 rfl ?_); refine newL (.slice none 0 0) (.string ⟨#[]⟩) (.slice X12 j d12) (.string (Sv.rtxt q)) ?_; intro g12 w12b hg12 B12 hb; replace B12 := Z0.mk B12; replace B0 := fk B0 hb; replace CO := Z0.mk (Kd.C_below CO.out hb); replace C12 := Z0.mk (Kd.C_below C12.out hb); replace CT := Z0.mk (Kd.C_below CT.out hb); replace CK := Z0.mk (Kd.C_below CK.out hb); replace HB := fB HB hb; clear hb hg12))
 obtain ⟨p0, p1, -, -⟩ := b2 B12
 have T14 := fun (w' : World) (hL : LaidW w') (C0 : Z0 (Kd.string.C w' X12 j (TQ.map Sv.rtxt))) (CT : Z0 (Kd.C (Kd.int .i64) w' X9 j KL)) => (Rename_ok X12 X9 j d12 j d9 (TQ.map Sv.rtxt) (Sv.rtxt q) KL j w' hL C0 CT kQ.out lK.out m0 m0 oq o3).mono fun e w' h => h.v R2.out hn0.out.symm
 go_upto_region 15 with (first
  | ((with_reducible refine gc_ 18 rfl ?_); refine gL 82 Tryz.func18 (T14 _ (hL.below HB.out) C12 CK) ?_; rintro _ w14 ⟨X14, d14, rfl, hd14, C14, hb⟩; refine ⟨_, rfl, ?_⟩; replace C14 := Z0.mk C14; replace B0 := fk B0 hb; replace B12 := fk B12 hb; replace CO := Z0.mk (Kd.C_below CO.out hb); replace C12 := Z0.mk (Kd.C_below C12.out hb); replace CK := Z0.mk (Kd.C_below CK.out hb); replace HB := fB HB hb; clear hb p0 p1)
  | ((with_reducible refine gd_ 14 rfl ?_); refine newL (.slice none 0 0) (.string ⟨#[]⟩) (.slice X14 j d14) (.string (Sv.rtxt q)) ?_; intro g14 w14b hg14 B14 hb; replace B14 := Z0.mk B14; replace B0 := fk B0 hb; replace B12 := fk B12 hb; replace CO := Z0.mk (Kd.C_below CO.out hb); replace C12 := Z0.mk (Kd.C_below C12.out hb); replace C14 := Z0.mk (Kd.C_below C14.out hb); replace CK := Z0.mk (Kd.C_below CK.out hb); replace HB := fB HB hb; clear hb hg14))
 obtain ⟨p0, p1, -, -⟩ := b2 B0
 go_upto_region 16 with ((with_reducible refine gc_ 21 rfl ?_); refine gL 88 Tryz.func21 (Eval_ok A0 A1 j c0 j c1 (qs.map Sv.rtxt) pt (Sv.rtxt q) _ (hL.below HB.out) ⟨Kd.C_below D0.out HB.out⟩ ⟨Kd.C_below D1.out HB.out⟩ hn0.out hn2.out m0 m0 o0 o2 o3) ?_; rw [E0.out]; rintro _ w' ⟨rfl, hb⟩; refine ⟨_, rfl, ?_⟩; replace B0 := fk B0 hb; replace B12 := fk B12 hb; replace B14 := fk B14 hb; replace CO := Z0.mk (Kd.C_below CO.out hb); replace C12 := Z0.mk (Kd.C_below C12.out hb); replace C14 := Z0.mk (Kd.C_below C14.out hb); replace HB := fB HB hb; clear hb p0 p1)
 obtain ⟨p0, p1, -, -⟩ := b2 B12
 go_upto_region 17 with ((with_reducible refine gc_ 21 rfl ?_); refine gL 94 Tryz.func21 (Eval_ok X12 (some ⟨g, 0, none⟩) j d12 j co (TQ.map Sv.rtxt) (TP.map Sv.rtxt) (Sv.rtxt q) _ (hL.below HB.out) C12 CO kQ.out kP.out m0 m0 oq op o3) ?_; rw [E1.out]; rintro _ w' ⟨rfl, hb⟩; refine ⟨_, rfl, ?_⟩; replace B0 := fk B0 hb; replace B12 := fk B12 hb; replace B14 := fk B14 hb; replace CO := Z0.mk (Kd.C_below CO.out hb); replace C12 := Z0.mk (Kd.C_below C12.out hb); replace C14 := Z0.mk (Kd.C_below C14.out hb); replace HB := fB HB hb; clear hb p0 p1)
 obtain ⟨p0, p1, -, -⟩ := b2 B14
 obtain ⟨q0, q1, -, -⟩ := b2 B0
 have z1 : (zx == zx) = true := beq_self_eq_true _
 have z2 : (vx.toList == vx.toList) = true := beq_self_eq_true _
 go_wp2_with (first
  | (go_at_call 17; refine (Same_ok X14 A0 j j d14 c0 (qs.map Sv.rtxt) (Sv.rtxt q) _ C14 ⟨Kd.C_below D0.out HB.out⟩ hn0.out rfl m0).mono ?_; rintro _ w' ⟨rfl, hb⟩; replace HB := fB HB hb; clear hb p0 p1 q0 q1)
  | (go_at_call 14; refine (lawake_ok _ (hL.below HB.out)).mono ?_; rintro _ w' ⟨rfl, hb⟩; replace HB := fB HB hb; clear hb))
 go_ret
 exact ⟨rfl, HB.out⟩
end Go.Proofs.YtihbebbabjklkaaGreatDoor.PA
