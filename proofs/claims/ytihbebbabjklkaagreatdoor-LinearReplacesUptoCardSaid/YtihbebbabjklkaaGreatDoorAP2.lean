import Derived.Test.YtihbebbabjklkaaGreatDoorAP1
set_option linter.unusedVariables false
set_option linter.unusedSimpArgs false
namespace Go.Proofs.YtihbebbabjklkaaGreatDoor.PA
open Go.RowKit Go.Proofs.WWords Go.Proofs.WMore
theorem div_of {a d q r : Int} (hd : 0 < d) (h : a = d * q + r) (h0 : 0 ≤ r) (h1 : r < d) : a / d = q ∧ a % d = r := by
 have := (Int.ediv_emod_unique (a := a) (b := d) (r := r) (q := q) hd).2 ⟨by omega, h0, h1⟩
 exact this
theorem drop_s (l : List Int) (i : Nat) (h : i < l.length) : Sv.vl 1000000000 (l.drop i) = l.getD i 0 + 1000000000 * Sv.vl 1000000000 (l.drop (i + 1)) := by
 rw [List.drop_eq_getElem_cons h, Sv.vl_cons]
 have : l.getD i 0 = l[i] := by simp [List.getD, h]
 rw [this]
theorem fld_inv (d : Int) (h0 : 0 < d) (h1 : d < 1000000000) (zs : List Int) (hd : Sv.Digs 1000000000 zs) (k : Nat) : k ≤ zs.length →
  (fld d (bk zs k)).1.length = zs.length ∧ Sv.Digs 1000000000 (fld d (bk zs k)).1 ∧ 0 ≤ (fld d (bk zs k)).2 ∧ (fld d (bk zs k)).2 < d ∧
   Sv.vl 1000000000 (zs.drop (zs.length - k)) = d * Sv.vl 1000000000 ((fld d (bk zs k)).1.drop (zs.length - k)) + (fld d (bk zs k)).2 := by
 induction k with
 | zero =>
  intro _
  refine ⟨by simp [bk, fld], by unfold bk fld; exact Sv.d_rep (by decide) _, by simp [bk, fld], by simpa [bk, fld] using h0, ?_⟩
  have e : (fld d (bk zs 0)).1.drop (zs.length - 0) = [] := List.drop_of_length_le (by simp [bk, fld])
  rw [e, Nat.sub_zero, List.drop_of_length_le (Nat.le_refl _)]
  simp [bk, fld, Sv.vl]
 | succ k ih =>
  intro hk
  obtain ⟨i1, i2, i3, i4, i5⟩ := ih (by omega)
  have hs : fld d (bk zs (k + 1)) = stp d (fld d (bk zs k)) ((zs.length : Int) - 1 - k) (rd zs ((zs.length : Int) - 1 - k)) := by
   unfold fld
   rw [bk, dif_pos (by omega), List.foldl_append]
   rfl
  have hi : zs.length - (k + 1) < zs.length := by omega
  have ei : ((zs.length : Int) - 1 - k) = ((zs.length - (k + 1) : Nat) : Int) := by omega
  have hv := Sv.g_digs (B := 1000000000) (by decide) hd (zs.length - (k + 1))
  rw [hs, ei, rd_nat]
  unfold stp
  rw [Int.toNat_natCast]
  have en : zs.length - (k + 1) + 1 = zs.length - k := by omega
  have ez := drop_s zs (zs.length - (k + 1)) hi
  rw [en] at ez
  generalize (fld d (bk zs k)).1 = q at *
  generalize (fld d (bk zs k)).2 = r at *
  generalize zs.getD (zs.length - (k + 1)) 0 = v at *
  have hnn : 0 ≤ r * 1000000000 + v := by omega
  have hm := Int.emod_add_mul_ediv (r * 1000000000 + v) d
  have hlt : (r * 1000000000 + v) / d < 1000000000 := by
   apply Int.ediv_lt_of_lt_mul h0
   have : 1000000000 * d = d * 1000000000 := Int.mul_comm _ _
   omega
  have hge : 0 ≤ (r * 1000000000 + v) / d := Int.ediv_nonneg hnn (by omega)
  have m0 := Int.emod_nonneg (r * 1000000000 + v) (show d ≠ 0 by omega)
  have m1 := Int.emod_lt_of_pos (r * 1000000000 + v) h0
  rw [Int.tdiv_eq_ediv_of_nonneg hnn, Int.tmod_eq_emod_of_nonneg hnn]
  have eq := drop_s (q.set (zs.length - (k + 1)) ((r * 1000000000 + v) / d)) (zs.length - (k + 1)) (by simp; omega)
  have e2 : (q.set (zs.length - (k + 1)) ((r * 1000000000 + v) / d)).drop (zs.length - (k + 1) + 1) = q.drop (zs.length - (k + 1) + 1) := List.drop_set_of_lt (by omega)
  rw [Sv.g_set_eq _ _ _ (by omega), e2, en] at eq
  refine ⟨by simpa using i1, Sv.d_set i2 _ hge hlt, m0, m1, ?_⟩
  show Sv.vl 1000000000 (zs.drop (zs.length - (k + 1))) = d * Sv.vl 1000000000 ((q.set (zs.length - (k + 1)) ((r * 1000000000 + v) / d)).drop (zs.length - (k + 1))) + _
  rw [eq, ez, i5]
  generalize Sv.vl 1000000000 (q.drop (zs.length - k)) = W at *
  generalize (r * 1000000000 + v) / d = Q at *
  generalize (r * 1000000000 + v) % d = M at *
  have e1 : d * (Q + 1000000000 * W) = d * Q + 1000000000 * (d * W) := by rw [Int.mul_add, Int.mul_left_comm]
  rw [e1]
  omega
theorem bi_short (n d : Nat) (h0 : 0 < d) (h1 : d < 1000000000) (hl : (mag n).length ≤ 1000000000000) : Ev (fun k => bIshort.f k (mag n) d) (mag (n / d), ((n % d : Nat) : Int)) := by
 unfold bIshort.f
 obtain ⟨i1, i2, i3, i4, i5⟩ := fld_inv d (by omega) (by omega) (mag n) (mag_digs n) (mag n).length (Nat.le_refl _)
 rw [Nat.sub_self, List.drop_zero, List.drop_zero, vl_mag] at i5
 refine Ev.pos ⟨by omega, by omega, mag_digs n, by omega⟩ (Ev.bind (bi_trim _ (by omega)) (Ev.of ?_))
 obtain ⟨e1, e2⟩ := div_of (by omega) i5 i3 i4
 rw [cut_mag i2 (n := n / d) (by rw [← e1]; rfl), ← e2]
 rfl
theorem sub_ev (v : List Int) (hv : Sv.Digs 1000000000 v) (q : Int) (hq0 : 0 ≤ q) (hq1 : q < 1000000000) (n : Nat) : ∀ (i : Nat) (u : List Int) (c : Int), i + n = u.length → Sv.Digs 1000000000 u → u.length ≤ 1000000000000 → v.length ≤ u.length → 0 ≤ c → c ≤ 1000000000 →
  ∃ b u', Ev (fun k => bIsubtract.l0 k u v q c (u.length : Int) i) (b, u') ∧ u'.length = u.length ∧ Sv.Digs 1000000000 u' ∧ ∃ c' : Int, 0 ≤ c' ∧ b = (c' == 0) ∧
   Sv.vl 1000000000 u' + q * Sv.vl 1000000000 v + Sv.pw 1000000000 i * c = Sv.vl 1000000000 u + q * Sv.vl 1000000000 (v.take i) + Sv.pw 1000000000 u.length * c' := by
 induction n with
 | zero =>
  intro i u c hi hd hb hl hc0 hc1
  refine ⟨(c == 0), u, Ev.succ ?_, rfl, hd, c, hc0, rfl, ?_⟩
  ·simp only [bIsubtract.l0]
   exact Ev.neg (by omega) (Ev.of rfl)
  ·rw [List.take_of_length_le (by omega), show i = u.length by omega]
 | succ n ih =>
  intro i u c hi hd hb hl hc0 hc1
  have du := Sv.g_digs (B := 1000000000) (by decide) hd i
  have dv := Sv.g_digs (B := 1000000000) (by decide) hv i
  have p0 : 0 ≤ q * v.getD i 0 := Int.mul_nonneg hq0 dv.1
  have p1 : q * v.getD i 0 ≤ 999999999 * 999999999 := Int.mul_le_mul (by omega) (by omega) dv.1 (by omega)
  obtain ⟨s, hs⟩ : ∃ s, s = c + q * v.getD i 0 := ⟨_, rfl⟩
  have hs0 : 0 ≤ s := by omega
  have hs1 : s ≤ 999999999000000001 + 1000000000 := by omega
  have step : ∀ b z : Int, z = u.getD i 0 - s % 1000000000 + 1000000000 * b → 0 ≤ z → z < 1000000000 → b = 0 ∨ b = 1 → ∃ bb u', Ev (fun k => bIsubtract.l0 k (u.set i z) v q (s / 1000000000 + b) (u.length : Int) ((i + 1 : Nat) : Int)) (bb, u') ∧ u'.length = u.length ∧ Sv.Digs 1000000000 u' ∧ ∃ c' : Int, 0 ≤ c' ∧ bb = (c' == 0) ∧
   Sv.vl 1000000000 u' + q * Sv.vl 1000000000 v + Sv.pw 1000000000 i * c = Sv.vl 1000000000 u + q * Sv.vl 1000000000 (v.take i) + Sv.pw 1000000000 u.length * c' := by
   intro b z hz z0 z1 hbb
   obtain ⟨bb, u', e1, e2, e3, c', e4, e5, e6⟩ := ih (i + 1) (u.set i z) (s / 1000000000 + b) (by rw [List.length_set]; omega) (Sv.d_set hd _ z0 z1) (by rw [List.length_set]; exact hb) (by rw [List.length_set]; exact hl) (by omega) (by omega)
   rw [List.length_set] at e1 e2 e6
   refine ⟨bb, u', e1, e2, e3, c', e4, e5, ?_⟩
   rw [Sv.v_set _ _ _ _ (by omega), Sv.v_take, Sv.pw_s] at e6
   have hm := Int.emod_add_mul_ediv s 1000000000
   generalize s % 1000000000 = r at *
   generalize s / 1000000000 = t at *
   generalize Sv.pw 1000000000 i = I at *
   generalize Sv.pw 1000000000 u.length * c' = X at *
   generalize q * Sv.vl 1000000000 v = Y at *
   clear ih e1 e2 e3 e4 e5 z0 z1 hs0 hs1 p0 p1 du dv hbb
   subst hz
   generalize u.getD i 0 = uu at *
   generalize v.getD i 0 = vv at *
   have hc : c = r + 1000000000 * t - q * vv := by omega
   subst hc
   clear hs hm
   grind
  have fin : ∀ (F : Nat → Option (Bool × List Int)), (∀ b z : Int, z = u.getD i 0 - s % 1000000000 + 1000000000 * b → 0 ≤ z → z < 1000000000 → b = 0 ∨ b = 1 → b = (if u.getD i 0 - s % 1000000000 < 0 then 1 else 0) → ∀ x, Ev (fun k => bIsubtract.l0 k (u.set i z) v q (s / 1000000000 + b) (u.length : Int) ((i + 1 : Nat) : Int)) x → Ev F x) →
    ∃ bb u', Ev F (bb, u') ∧ u'.length = u.length ∧ Sv.Digs 1000000000 u' ∧ ∃ c' : Int, 0 ≤ c' ∧ bb = (c' == 0) ∧ Sv.vl 1000000000 u' + q * Sv.vl 1000000000 v + Sv.pw 1000000000 i * c = Sv.vl 1000000000 u + q * Sv.vl 1000000000 (v.take i) + Sv.pw 1000000000 u.length * c' := by
   intro F hF
   by_cases h : u.getD i 0 - s % 1000000000 < 0
   ·obtain ⟨bb, u', e1, e2⟩ := step 1 _ rfl (by omega) (by omega) (.inr rfl)
    exact ⟨bb, u', hF 1 _ rfl (by omega) (by omega) (.inr rfl) (by rw [if_pos h]) _ e1, e2⟩
   ·obtain ⟨bb, u', e1, e2⟩ := step 0 _ rfl (by omega) (by omega) (.inl rfl)
    exact ⟨bb, u', hF 0 _ rfl (by omega) (by omega) (.inl rfl) (by rw [if_neg h]) _ e1, e2⟩
  apply fin
  intro b z hz z0 z1 hb01 hbb x hx
  refine Ev.succ ?_
  simp only [bIsubtract.l0]
  have es : ∀ y : Int, y = s → Int.tmod y 1000000000 = s % 1000000000 ∧ wrap64 (Int.tdiv y 1000000000) = s / 1000000000 := fun y hy => by rw [hy]; exact dm hs0 (by omega) (by omega)
  have ew : ∀ y : Int, 0 ≤ y → y ≤ 9000000000000000000 → wrap64 y = y := fun y h0 h1 => w64 (by omega) (by omega)
  have fin2 : ∀ y : Int, y = s → Ev (fun k => if (wrap64 ((rd u (i : Int)) - (Int.tmod y 1000000000))) < 0 then (bIsubtract.l0 k (u.set ((i : Int)).toNat (wrap64 ((wrap64 ((rd u (i : Int)) - (Int.tmod y 1000000000))) + 1000000000))) v q (wrap64 ((wrap64 (Int.tdiv y 1000000000)) + 1)) (u.length : Int) (wrap64 ((i : Int) + 1))) else (bIsubtract.l0 k (u.set ((i : Int)).toNat (wrap64 ((rd u (i : Int)) - (Int.tmod y 1000000000)))) v q (wrap64 (Int.tdiv y 1000000000)) (u.length : Int) (wrap64 ((i : Int) + 1)))) x := by
   intro y hy
   rw [(es y hy).1, (es y hy).2, rd_nat, Int.toNat_natCast]
   clear es ew
   rw [(w64n (by omega) (by omega) : wrap64 ((i : Int) + 1) = ((i + 1 : Nat) : Int)), (w64 (by omega) (by omega) : wrap64 (u.getD i 0 - s % 1000000000) = u.getD i 0 - s % 1000000000), (w64 (by omega) (by omega) : wrap64 (u.getD i 0 - s % 1000000000 + 1000000000) = u.getD i 0 - s % 1000000000 + 1000000000), (w64 (by omega) (by omega) : wrap64 (s / 1000000000 + 1) = s / 1000000000 + 1)]
   by_cases h : u.getD i 0 - s % 1000000000 < 0
   ·rw [if_pos h] at hbb
    subst hbb
    refine Ev.pos h ?_
    rw [Int.mul_one] at hz
    rw [← hz]; exact hx
   ·rw [if_neg h] at hbb
    subst hbb
    refine Ev.neg h ?_
    rw [Int.mul_zero, Int.add_zero] at hz
    rw [Int.add_zero] at hx
    rw [← hz]; exact hx
  refine Ev.pos (by omega) ?_
  by_cases hiv : i < v.length
  ·refine Ev.pos (by omega) (Ev.pos (by omega) (Ev.pos (by omega) (fin2 _ ?_)))
   rw [rd_nat, ew _ p0 (by omega), ew _ (by omega) (by omega), hs]
  ·refine Ev.neg (by omega) (Ev.pos (by omega) (Ev.pos (by omega) (fin2 _ ?_)))
   rw [hs, Sv.g_ge v i (by omega), Int.mul_zero, Int.add_zero]
set_option linter.unusedVariables false
set_option linter.unusedSimpArgs false
theorem back_ev (v : List Int) (hv : Sv.Digs 1000000000 v) (q m : Int) (L : Nat) (n : Nat) : ∀ (i : Nat) (u : List Int) (c : Int), i + n = u.length → L = u.length → m = v.length → Sv.Digs 1000000000 u → u.length ≤ 1000000000000 → v.length ≤ u.length → 0 ≤ c → c ≤ 1 →
  ∃ u', Ev (fun k => bIestimate.l1 k u v m q c (L : Int) i) (q, u') ∧ u'.length = u.length ∧ Sv.Digs 1000000000 u' ∧ ∃ c' : Int, 0 ≤ c' ∧ c' ≤ 1 ∧
   Sv.vl 1000000000 u' + Sv.vl 1000000000 (v.take i) + Sv.pw 1000000000 u.length * c' = Sv.vl 1000000000 u + Sv.vl 1000000000 v + Sv.pw 1000000000 i * c := by
 induction n with
 | zero =>
  intro i u c hi hL hm hd hb hl hc0 hc1
  refine ⟨u, Ev.succ ?_, rfl, hd, c, hc0, hc1, ?_⟩
  ·simp only [bIestimate.l1]
   exact Ev.neg (by omega) (Ev.of rfl)
  ·rw [List.take_of_length_le (by omega), show i = u.length by omega]
 | succ n ih =>
  intro i u c hi hL hm hd hb hl hc0 hc1
  have du := Sv.g_digs (B := 1000000000) (by decide) hd i
  have dv := Sv.g_digs (B := 1000000000) (by decide) hv i
  obtain ⟨s, hs⟩ : ∃ s, s = c + u.getD i 0 + v.getD i 0 := ⟨_, rfl⟩
  have hs0 : 0 ≤ s := by omega
  have hs1 : s ≤ 2000000000 - 1 := by omega
  obtain ⟨u', e1, e2, e3, c', e4, e5, e6⟩ := ih (i + 1) (u.set i (s % 1000000000)) (s / 1000000000) (by rw [List.length_set]; omega) (by rw [List.length_set]; exact hL) hm (Sv.d_set hd _ (by omega) (by omega)) (by rw [List.length_set]; exact hb) (by rw [List.length_set]; exact hl) (by omega) (by omega)
  rw [List.length_set] at e2 e6
  have e7 : Sv.vl 1000000000 u' + Sv.vl 1000000000 (v.take i) + Sv.pw 1000000000 u.length * c' = Sv.vl 1000000000 u + Sv.vl 1000000000 v + Sv.pw 1000000000 i * c := by
   rw [Sv.v_set _ _ _ _ (by omega), Sv.v_take, Sv.pw_s] at e6
   have hm := Int.emod_add_mul_ediv s 1000000000
   generalize s % 1000000000 = r at *
   generalize s / 1000000000 = t at *
   generalize Sv.pw 1000000000 i = I at *
   generalize Sv.pw 1000000000 u.length * c' = X at *
   generalize u.getD i 0 = uu at *
   generalize v.getD i 0 = vv at *
   clear ih e1 e2 e3 e4 e5 hs0 hs1 du dv
   have hc : c = r + 1000000000 * t - uu - vv := by omega
   subst hc
   clear hs hm
   grind
  refine ⟨u', Ev.succ ?_, e2, e3, c', e4, e5, e7⟩
  simp only [bIestimate.l1]
  clear ih e2 e3 e4 e5 e6 e7
  rw [rd_nat, rd_nat, Int.toNat_natCast, (w64n (by omega) (by omega) : wrap64 ((i : Int) + 1) = ((i + 1 : Nat) : Int)), (w64 (by omega) (by omega) : wrap64 (c + u.getD i 0) = c + u.getD i 0)]
  refine Ev.pos (by omega) (Ev.pos (by omega) (Ev.pos (by omega) ?_))
  by_cases hiv : i < v.length
  ·refine Ev.pos (by omega) (Ev.pos (by omega) ?_)
   rw [(w64 (by omega) (by omega) : wrap64 (c + u.getD i 0 + v.getD i 0) = c + u.getD i 0 + v.getD i 0), ← hs]
   obtain ⟨d1, d2⟩ := dm (z := s) (B := 1000000000) hs0 (by omega) (by omega)
   rw [d1, d2]
   exact e1
  ·have hv0 := Sv.g_ge v i (by omega)
   refine Ev.neg (by omega) ?_
   rw [show c + u.getD i 0 = s by omega]
   obtain ⟨d1, d2⟩ := dm (z := s) (B := 1000000000) hs0 (by omega) (by omega)
   rw [d1, d2]
   exact e1
theorem est_j1 (u v : List Int) (hu : Sv.Digs 1000000000 u) (hv : Sv.Digs 1000000000 v) (hl : u.length = v.length + 1) (hb : u.length ≤ 1000000000000) (hV : 0 < Sv.vl 1000000000 v) (q : Int) (hq0 : 0 ≤ q) (hq1 : q < 1000000000)
  (h1 : Sv.vl 1000000000 u / Sv.vl 1000000000 v ≤ q) (h2 : q ≤ Sv.vl 1000000000 u / Sv.vl 1000000000 v + 1) :
  ∃ u', Ev (fun k => bIestimate.j1 k u v (v.length : Int) q) (Sv.vl 1000000000 u / Sv.vl 1000000000 v, u') ∧ u'.length = u.length ∧ Sv.Digs 1000000000 u' ∧ Sv.vl 1000000000 u' = Sv.vl 1000000000 u % Sv.vl 1000000000 v := by
 obtain ⟨b, w, e1, e2, e3, c, e4, e5, e6⟩ := sub_ev v hv q hq0 hq1 u.length 0 u 0 (by omega) hu hb (by omega) (by omega) (by omega)
 rw [List.take_zero, Sv.vl_nil, Int.mul_zero, Int.mul_zero, Int.add_zero, Int.add_zero] at e6
 have l1 := Sv.v_lt (B := 1000000000) (by decide) e3
 have l2 := Sv.vl_nonneg (B := 1000000000) (by decide) e3
 have l3 := Sv.v_lt (B := 1000000000) (by decide) hv
 have l4 : Sv.pw 1000000000 v.length ≤ Sv.pw 1000000000 u.length := Sv.pw_mono (by decide) (by omega)
 have l5 := Sv.pw_pos (B := 1000000000) (by decide) u.length
 have hdm := Int.mul_ediv_add_emod (Sv.vl 1000000000 u) (Sv.vl 1000000000 v)
 have m0 := Int.emod_nonneg (Sv.vl 1000000000 u) (show Sv.vl 1000000000 v ≠ 0 by omega)
 have m1 := Int.emod_lt_of_pos (Sv.vl 1000000000 u) hV
 rw [e2] at l1
 rcases (show q = Sv.vl 1000000000 u / Sv.vl 1000000000 v ∨ q = Sv.vl 1000000000 u / Sv.vl 1000000000 v + 1 by omega) with hq | hq
 ·have hc : c = 0 := by
   rw [← hq, Int.mul_comm] at hdm
   rcases (show c = 0 ∨ 1 ≤ c by omega) with h | h
   ·exact h
   ·have := Int.mul_le_mul_of_nonneg_left h (show 0 ≤ Sv.pw 1000000000 u.length by omega)
    omega
  subst hc
  refine ⟨w, Ev.succ ?_, e2, e3, ?_⟩
  ·simp only [bIestimate.j1]
   refine Ev.bind e1 (Ev.pos (by rw [e5]; rfl) (Ev.of ?_))
   rw [← hq]
  ·rw [← hq, Int.mul_comm] at hdm
   omega
 ·have e7 : q * Sv.vl 1000000000 v = Sv.vl 1000000000 v * (Sv.vl 1000000000 u / Sv.vl 1000000000 v) + Sv.vl 1000000000 v := by rw [hq, Int.mul_comm, Int.mul_add, Int.mul_one]
  have hc : c = 1 := by
   rcases (show c = 0 ∨ c = 1 ∨ 2 ≤ c by omega) with h | h | h
   ·subst h; omega
   ·exact h
   ·have := Int.mul_le_mul_of_nonneg_left h (show 0 ≤ Sv.pw 1000000000 u.length by omega)
    omega
  subst hc
  obtain ⟨u', f1, f2, f3, c', f4, f5, f6⟩ := back_ev v hv (q - 1) (v.length : Int) u.length w.length 0 w 0 (by omega) e2.symm rfl e3 (by omega) (by omega) (by omega) (by omega)
  rw [List.take_zero, Sv.vl_nil, Int.mul_zero, Int.add_zero, Int.add_zero, e2] at f6
  have k1 := Sv.v_lt (B := 1000000000) (by decide) f3
  have k2 := Sv.vl_nonneg (B := 1000000000) (by decide) f3
  rw [f2, e2] at k1
  have hc' : c' = 1 := by
   rcases (show c' = 0 ∨ c' = 1 by omega) with h | h
   ·subst h; omega
   ·exact h
  subst hc'
  refine ⟨u', Ev.succ ?_, by omega, f3, by omega⟩
  simp only [bIestimate.j1]
  refine Ev.bind e1 (Ev.neg (by show ¬ b = true; rw [e5]; decide) ?_)
  rw [(w64 (by omega) (by omega) : wrap64 (q - 1) = q - 1)]
  refine f1.eq ?_
  rw [hq]
  congr 1
  omega
theorem kn_ge {A V t u2 v1 v2 P a v q r : Int} (hA : A = (t * 1000000000 + u2) * P + a) (hV : V = (v1 * 1000000000 + v2) * P + v) (hP : 0 < P) (ha : 0 ≤ a ∧ a < P) (hv : 0 ≤ v ∧ v < P) (hV0 : 0 < V) (hq : 0 ≤ q)
  (ht : q * v1 + r = t) (hlt : r * 1000000000 + u2 < q * v2) : A / V < q := by
 apply Int.ediv_lt_of_lt_mul hV0
 have h1 : t * 1000000000 + u2 + 1 ≤ q * (v1 * 1000000000 + v2) := by
  have : q * (v1 * 1000000000 + v2) = q * v1 * 1000000000 + q * v2 := by grind
  omega
 have h2 := Int.mul_le_mul_of_nonneg_right h1 (show 0 ≤ P by omega)
 have h3 : (t * 1000000000 + u2 + 1) * P = (t * 1000000000 + u2) * P + P := by grind
 have h4 : q * V = q * (v1 * 1000000000 + v2) * P + q * v := by rw [hV]; grind
 have h5 := Int.mul_nonneg hq hv.1
 rw [h4]
 omega
theorem kn_le {A V t u2 v1 v2 P a v q r : Int} (hA : A = (t * 1000000000 + u2) * P + a) (hV : V = (v1 * 1000000000 + v2) * P + v) (hP : 0 < P) (ha : 0 ≤ a ∧ a < P) (hv : 0 ≤ v ∧ v < P) (h1 : 1 ≤ v1) (h2 : 0 ≤ v2 ∧ v2 < 1000000000) (hu : 0 ≤ u2) (hq : 0 ≤ q) (hq1 : q < 1000000000)
  (ht : q * v1 + r = t) (hx : 1000000000 ≤ r ∨ q * v2 ≤ r * 1000000000 + u2) : q ≤ A / V + 1 := by
 have k1 : q * v2 ≤ r * 1000000000 + u2 := by
  rcases hx with h | h
  ·have : q * v2 ≤ 999999999 * 999999999 := Int.mul_le_mul (by omega) (by omega) h2.1 (by omega)
   omega
  ·exact h
 have k2 : q * (v1 * 1000000000 + v2) ≤ t * 1000000000 + u2 := by
  have : q * (v1 * 1000000000 + v2) = q * v1 * 1000000000 + q * v2 := by grind
  omega
 have k3 := Int.mul_le_mul_of_nonneg_right k2 (show 0 ≤ P by omega)
 have k4 : q * V = q * (v1 * 1000000000 + v2) * P + q * v := by rw [hV]; grind
 have k5 : q * v ≤ 999999999 * (P - 1) := Int.mul_le_mul (by omega) (by omega) hv.1 (by omega)
 have k6 : 1000000000 * P ≤ (v1 * 1000000000 + v2) * P := Int.mul_le_mul_of_nonneg_right (by omega) (by omega)
 have hV0 : 0 < V := by omega
 have k7 : (q - 1) * V ≤ A := by
  rw [Int.sub_mul, Int.one_mul]
  omega
 have := (Int.le_ediv_iff_mul_le hV0).2 k7
 omega
theorem kn_top {A V t u2 v1 v2 P a v : Int} (hA : A = (t * 1000000000 + u2) * P + a) (hV : V = (v1 * 1000000000 + v2) * P + v) (hP : 0 < P) (ha : 0 ≤ a ∧ a < P) (hv : 0 ≤ v ∧ v < P) (h1 : 1 ≤ v1) (h2 : 0 ≤ v2 ∧ v2 < 1000000000) (hu : u2 < 1000000000) (hA0 : 0 ≤ A) : A / V ≤ t / v1 := by
 have k6 : 1000000000 * P ≤ (v1 * 1000000000 + v2) * P := Int.mul_le_mul_of_nonneg_right (by omega) (by omega)
 have hV0 : 0 < V := by omega
 apply (Int.le_ediv_iff_mul_le (by omega)).2
 have h3 : A / V * V ≤ A := Int.ediv_mul_le A (by omega)
 have h4 := Int.ediv_nonneg hA0 (show 0 ≤ V by omega)
 generalize A / V = q at *
 have k4 : q * V = (q * v1) * (1000000000 * P) + q * v2 * P + q * v := by rw [hV]; grind
 have k5 := Int.mul_nonneg h4 hv.1
 have k7 := Int.mul_nonneg (Int.mul_nonneg h4 h2.1) (show 0 ≤ P by omega)
 have k8 : A < (t + 1) * (1000000000 * P) := by
  have : (t + 1) * (1000000000 * P) = (t * 1000000000 + 1000000000) * P := by grind
  have h9 := Int.mul_le_mul_of_nonneg_right (show t * 1000000000 + u2 + 1 ≤ t * 1000000000 + 1000000000 by omega) (show 0 ≤ P by omega)
  have h10 : (t * 1000000000 + u2 + 1) * P = (t * 1000000000 + u2) * P + P := by grind
  omega
 have k9 : q * v1 * (1000000000 * P) < (t + 1) * (1000000000 * P) := by omega
 have := Int.lt_of_mul_lt_mul_right k9 (by omega)
 omega
theorem kn_r {A V t u2 v1 v2 P a v : Int} (hA : A = (t * 1000000000 + u2) * P + a) (hV : V = (v1 * 1000000000 + v2) * P + v) (hP : 0 < P) (ha : 0 ≤ a ∧ a < P) (hv : 0 ≤ v ∧ v < P) (h2 : 0 ≤ v2 ∧ v2 < 1000000000) (hu : 0 ≤ u2) (hlt : A < 1000000000 * V) : t < 1000000000 * v1 + 1000000000 := by
 have k1 : t * (1000000000 * P) ≤ A := by
  have : (t * 1000000000 + u2) * P = t * (1000000000 * P) + u2 * P := by grind
  have h9 := Int.mul_nonneg hu (show 0 ≤ P by omega)
  omega
 have k2 : V ≤ (v1 + 1) * (1000000000 * P) := by
  have h9 := Int.mul_le_mul_of_nonneg_right (show v1 * 1000000000 + v2 + 1 ≤ v1 * 1000000000 + 1000000000 by omega) (show 0 ≤ P by omega)
  have h10 : (v1 * 1000000000 + v2 + 1) * P = (v1 * 1000000000 + v2) * P + P := by grind
  have h11 : (v1 * 1000000000 + 1000000000) * P = (v1 + 1) * (1000000000 * P) := by grind
  omega
 have k3 : t * (1000000000 * P) < (1000000000 * v1 + 1000000000) * (1000000000 * P) := by
  have : (1000000000 * v1 + 1000000000) * (1000000000 * P) = 1000000000 * ((v1 + 1) * (1000000000 * P)) := by grind
  omega
 exact Int.lt_of_mul_lt_mul_right k3 (by omega)
theorem est_l0 (u v : List Int) (hu : Sv.Digs 1000000000 u) (hv : Sv.Digs 1000000000 v) (n : Nat) (hn : v.length = n + 2) (hl : u.length = n + 3) (hb : u.length ≤ 1000000000000) (h1 : 1 ≤ v.getD (n + 1) 0)
  (hlt : Sv.vl 1000000000 u < 1000000000 * Sv.vl 1000000000 v) (Q : Nat) : ∀ (q r : Int), q = Q → q < 1000000000 → 0 ≤ r → r < 2000000000 → q * v.getD (n + 1) 0 + r = u.getD (n + 2) 0 * 1000000000 + u.getD (n + 1) 0 → Sv.vl 1000000000 u / Sv.vl 1000000000 v ≤ q →
  ∃ u', Ev (fun k => bIestimate.l0 k u v (v.length : Int) q r) (Sv.vl 1000000000 u / Sv.vl 1000000000 v, u') ∧ u'.length = u.length ∧ Sv.Digs 1000000000 u' ∧ Sv.vl 1000000000 u' = Sv.vl 1000000000 u % Sv.vl 1000000000 v := by
 have eV : Sv.vl 1000000000 v = (v.getD (n + 1) 0 * 1000000000 + v.getD n 0) * Sv.pw 1000000000 n + Sv.vl 1000000000 (v.take n) := by
  have a1 := Sv.v_take 1000000000 v (n + 1)
  have a2 := Sv.v_take 1000000000 v n
  rw [List.take_of_length_le (by omega), a2, Sv.pw_s] at a1
  rw [a1]; grind
 have eU : Sv.vl 1000000000 u = ((u.getD (n + 2) 0 * 1000000000 + u.getD (n + 1) 0) * 1000000000 + u.getD n 0) * Sv.pw 1000000000 n + Sv.vl 1000000000 (u.take n) := by
  have a0 := Sv.v_take 1000000000 u (n + 2)
  have a1 := Sv.v_take 1000000000 u (n + 1)
  have a2 := Sv.v_take 1000000000 u n
  rw [List.take_of_length_le (by omega), a1, a2, Sv.pw_s 1000000000 (n + 1), Sv.pw_s 1000000000 n] at a0
  rw [a0]; grind
 have hP := Sv.pw_pos (B := 1000000000) (by decide) n
 have bv : 0 ≤ Sv.vl 1000000000 (v.take n) ∧ Sv.vl 1000000000 (v.take n) < Sv.pw 1000000000 n := by
  have := Sv.v_lt (B := 1000000000) (by decide) (Sv.d_take hv n)
  rw [List.length_take, Nat.min_eq_left (by omega)] at this
  exact ⟨Sv.vl_nonneg (by decide) (Sv.d_take hv n), this⟩
 have bu : 0 ≤ Sv.vl 1000000000 (u.take n) ∧ Sv.vl 1000000000 (u.take n) < Sv.pw 1000000000 n := by
  have := Sv.v_lt (B := 1000000000) (by decide) (Sv.d_take hu n)
  rw [List.length_take, Nat.min_eq_left (by omega)] at this
  exact ⟨Sv.vl_nonneg (by decide) (Sv.d_take hu n), this⟩
 have g1 := Sv.g_digs (B := 1000000000) (by decide) hv (n + 1)
 have g2 := Sv.g_digs (B := 1000000000) (by decide) hv n
 have g3 := Sv.g_digs (B := 1000000000) (by decide) hu n
 have hU0 := Sv.vl_nonneg (B := 1000000000) (by decide) hu
 have hV0 : 0 < Sv.vl 1000000000 v := by
  have := Int.mul_pos (show 0 < v.getD (n + 1) 0 * 1000000000 + v.getD n 0 by omega) hP
  omega
 have hQ0 := Int.ediv_nonneg hU0 (show 0 ≤ Sv.vl 1000000000 v by omega)
 induction Q with
 | zero =>
  intro q r hq hq1 hr0 hr1 ht hge
  have hq0 : q = 0 := by omega
  have hle : q ≤ Sv.vl 1000000000 u / Sv.vl 1000000000 v + 1 := by omega
  obtain ⟨u', f1, f2⟩ := est_j1 u v hu hv (by omega) hb hV0 q (by omega) hq1 hge hle
  refine ⟨u', Ev.succ ?_, f2⟩
  simp only [bIestimate.l0]
  by_cases hr : r < 1000000000
  ·rw [(w64n (by omega) (by omega) : wrap64 ((v.length : Int) - 2) = (n : Int)), rd_nat, rd_nat, hq0, Int.zero_mul, (w64 (by omega) (by omega) : wrap64 0 = 0), (w64 (by omega) (by omega) : wrap64 (r * 1000000000) = r * 1000000000), (w64 (by omega) (by omega) : wrap64 (r * 1000000000 + u.getD n 0) = r * 1000000000 + u.getD n 0)]
   rw [hq0] at f1
   exact Ev.pos hr (Ev.pos (by omega) (Ev.pos (by omega) (Ev.pos (by omega) (Ev.neg (by omega) f1))))
  ·exact Ev.neg hr f1
 | succ Q ih =>
  intro q r hq hq1 hr0 hr1 ht hge
  have p0 : 0 ≤ q * v.getD n 0 := Int.mul_nonneg (by omega) g2.1
  have p1 : q * v.getD n 0 ≤ 999999999 * 999999999 := Int.mul_le_mul (by omega) (by omega) g2.1 (by omega)
  by_cases hr : r < 1000000000
  ·by_cases hc : q * v.getD n 0 > r * 1000000000 + u.getD n 0
   ·have hk := kn_ge eU eV hP bu bv hV0 (by omega) ht hc
    have hstep : (q - 1) * v.getD (n + 1) 0 + (r + v.getD (n + 1) 0) = u.getD (n + 2) 0 * 1000000000 + u.getD (n + 1) 0 := by
     rw [Int.sub_mul, Int.one_mul]; omega
    obtain ⟨u', f1, f2⟩ := ih (q - 1) (r + v.getD (n + 1) 0) (by omega) (by omega) (by omega) (by omega) hstep (by omega)
    refine ⟨u', Ev.succ ?_, f2⟩
    simp only [bIestimate.l0]
    clear ih eU eV
    rw [(w64n (by omega) (by omega) : wrap64 ((v.length : Int) - 2) = (n : Int)), (w64n (by omega) (by omega) : wrap64 ((v.length : Int) - 1) = ((n + 1 : Nat) : Int)), rd_nat, rd_nat, rd_nat, (w64 (by omega) (by omega) : wrap64 (q * v.getD n 0) = q * v.getD n 0), (w64 (by omega) (by omega) : wrap64 (r * 1000000000) = r * 1000000000), (w64 (by omega) (by omega) : wrap64 (r * 1000000000 + u.getD n 0) = r * 1000000000 + u.getD n 0), (w64 (by omega) (by omega) : wrap64 (q - 1) = q - 1), (w64 (by omega) (by omega) : wrap64 (r + v.getD (n + 1) 0) = r + v.getD (n + 1) 0)]
    exact Ev.pos hr (Ev.pos (by omega) (Ev.pos (by omega) (Ev.pos (by omega) (Ev.pos hc (Ev.pos (by omega) (Ev.pos (by omega) f1))))))
   ·have hle := kn_le eU eV hP bu bv h1 g2 g3.1 (by omega) hq1 ht (.inr (by omega))
    obtain ⟨u', f1, f2⟩ := est_j1 u v hu hv (by omega) hb hV0 q (by omega) hq1 hge hle
    refine ⟨u', Ev.succ ?_, f2⟩
    simp only [bIestimate.l0]
    clear ih eU eV
    rw [(w64n (by omega) (by omega) : wrap64 ((v.length : Int) - 2) = (n : Int)), rd_nat, rd_nat, (w64 (by omega) (by omega) : wrap64 (q * v.getD n 0) = q * v.getD n 0), (w64 (by omega) (by omega) : wrap64 (r * 1000000000) = r * 1000000000), (w64 (by omega) (by omega) : wrap64 (r * 1000000000 + u.getD n 0) = r * 1000000000 + u.getD n 0)]
    exact Ev.pos hr (Ev.pos (by omega) (Ev.pos (by omega) (Ev.pos (by omega) (Ev.neg hc f1))))
  ·have hle := kn_le eU eV hP bu bv h1 g2 g3.1 (by omega) hq1 ht (.inl (by omega))
   obtain ⟨u', f1, f2⟩ := est_j1 u v hu hv (by omega) hb hV0 q (by omega) hq1 hge hle
   refine ⟨u', Ev.succ ?_, f2⟩
   simp only [bIestimate.l0]
   exact Ev.neg hr f1
theorem bi_estimate (u v : List Int) (hu : Sv.Digs 1000000000 u) (hv : Sv.Digs 1000000000 v) (n : Nat) (hn : v.length = n + 2) (hl : u.length = n + 3) (hb : u.length ≤ 1000000000000) (h1 : 1 ≤ v.getD (n + 1) 0)
  (hlt : Sv.vl 1000000000 u < 1000000000 * Sv.vl 1000000000 v) :
  ∃ u', Ev (fun k => bIestimate.f k u v) (Sv.vl 1000000000 u / Sv.vl 1000000000 v, u') ∧ u'.length = u.length ∧ Sv.Digs 1000000000 u' ∧ Sv.vl 1000000000 u' = Sv.vl 1000000000 u % Sv.vl 1000000000 v := by
 have g1 := Sv.g_digs (B := 1000000000) (by decide) hv (n + 1)
 have g2 := Sv.g_digs (B := 1000000000) (by decide) hu (n + 1)
 have g3 := Sv.g_digs (B := 1000000000) (by decide) hu (n + 2)
 obtain ⟨t, ht⟩ : ∃ t, t = u.getD (n + 2) 0 * 1000000000 + u.getD (n + 1) 0 := ⟨_, rfl⟩
 have t0 : 0 ≤ t := by omega
 have t1 : t ≤ 999999999999999999 := by omega
 have d0 := Int.ediv_nonneg t0 (show 0 ≤ v.getD (n + 1) 0 by omega)
 have d1 : t / v.getD (n + 1) 0 ≤ t := Int.ediv_le_self _ t0
 have hU0 := Sv.vl_nonneg (B := 1000000000) (by decide) hu
 have hP := Sv.pw_pos (B := 1000000000) (by decide) n
 have eV : Sv.vl 1000000000 v = (v.getD (n + 1) 0 * 1000000000 + v.getD n 0) * Sv.pw 1000000000 n + Sv.vl 1000000000 (v.take n) := by
  have a1 := Sv.v_take 1000000000 v (n + 1)
  have a2 := Sv.v_take 1000000000 v n
  rw [List.take_of_length_le (by omega), a2, Sv.pw_s] at a1
  rw [a1]; grind
 have eU : Sv.vl 1000000000 u = (t * 1000000000 + u.getD n 0) * Sv.pw 1000000000 n + Sv.vl 1000000000 (u.take n) := by
  have a0 := Sv.v_take 1000000000 u (n + 2)
  have a1 := Sv.v_take 1000000000 u (n + 1)
  have a2 := Sv.v_take 1000000000 u n
  rw [List.take_of_length_le (by omega), a1, a2, Sv.pw_s 1000000000 (n + 1), Sv.pw_s 1000000000 n] at a0
  rw [a0, ht]; grind
 have bv : 0 ≤ Sv.vl 1000000000 (v.take n) ∧ Sv.vl 1000000000 (v.take n) < Sv.pw 1000000000 n := by
  have := Sv.v_lt (B := 1000000000) (by decide) (Sv.d_take hv n)
  rw [List.length_take, Nat.min_eq_left (by omega)] at this
  exact ⟨Sv.vl_nonneg (by decide) (Sv.d_take hv n), this⟩
 have bu : 0 ≤ Sv.vl 1000000000 (u.take n) ∧ Sv.vl 1000000000 (u.take n) < Sv.pw 1000000000 n := by
  have := Sv.v_lt (B := 1000000000) (by decide) (Sv.d_take hu n)
  rw [List.length_take, Nat.min_eq_left (by omega)] at this
  exact ⟨Sv.vl_nonneg (by decide) (Sv.d_take hu n), this⟩
 have g4 := Sv.g_digs (B := 1000000000) (by decide) hv n
 have g5 := Sv.g_digs (B := 1000000000) (by decide) hu n
 have hV0 : 0 < Sv.vl 1000000000 v := by
  have := Int.mul_pos (show 0 < v.getD (n + 1) 0 * 1000000000 + v.getD n 0 by omega) hP
  omega
 have hQ : Sv.vl 1000000000 u / Sv.vl 1000000000 v < 1000000000 := Int.ediv_lt_of_lt_mul hV0 hlt
 have hT := kn_top eU eV hP bu bv h1 g4 g5.2 hU0
 obtain ⟨q, hq⟩ : ∃ q, q = mn (t / v.getD (n + 1) 0) 999999999 := ⟨_, rfl⟩
 have hq' : q = t / v.getD (n + 1) 0 ∨ (q = 999999999 ∧ 999999999 < t / v.getD (n + 1) 0) := by
  rw [hq]; unfold mn
  split
  ·exact .inr ⟨rfl, by assumption⟩
  ·exact .inl rfl
 have hq0 : 0 ≤ q := by omega
 have hq1 : q < 1000000000 := by
  rw [hq]; unfold mn
  split <;> omega
 have hQq : Sv.vl 1000000000 u / Sv.vl 1000000000 v ≤ q := by omega
 have hqt : q * v.getD (n + 1) 0 ≤ t := by
  have h3 : t / v.getD (n + 1) 0 * v.getD (n + 1) 0 ≤ t := Int.ediv_mul_le t (by omega)
  have h4 := Int.mul_le_mul_of_nonneg_right (show q ≤ t / v.getD (n + 1) 0 by omega) (show 0 ≤ v.getD (n + 1) 0 by omega)
  omega
 have hqt0 := Int.mul_nonneg hq0 g1.1
 have hR := kn_r eU eV hP bu bv g4 g5.1 hlt
 have hr2 : t - q * v.getD (n + 1) 0 < 2000000000 := by
  rcases hq' with h | ⟨h, -⟩
  ·have := Int.mul_ediv_add_emod t (v.getD (n + 1) 0)
   have h3 := Int.emod_lt_of_pos t (show 0 < v.getD (n + 1) 0 by omega)
   rw [h, Int.mul_comm]
   omega
  ·rw [h]; omega
 unfold bIestimate.f
 clear eU eV bu bv hT hR
 rw [(w64n (by omega) (by omega) : wrap64 ((v.length : Int) - 1) = ((n + 1 : Nat) : Int)), show ((v.length : Nat) : Int) = ((n + 2 : Nat) : Int) by omega, rd_nat, rd_nat, rd_nat]
 rw [(w64 (by omega) (by omega) : wrap64 (u.getD (n + 2) 0 * 1000000000) = u.getD (n + 2) 0 * 1000000000), (w64 (by omega) (by omega) : wrap64 (u.getD (n + 2) 0 * 1000000000 + u.getD (n + 1) 0) = u.getD (n + 2) 0 * 1000000000 + u.getD (n + 1) 0), ← ht, Int.tdiv_eq_ediv_of_nonneg t0, (w64 (by omega) (by omega) : wrap64 (t / v.getD (n + 1) 0) = t / v.getD (n + 1) 0), ← hq, (w64 (by omega) (by omega) : wrap64 (q * v.getD (n + 1) 0) = q * v.getD (n + 1) 0), (w64 (by omega) (by omega) : wrap64 (t - q * v.getD (n + 1) 0) = t - q * v.getD (n + 1) 0)]
 by_cases hrr : t - q * v.getD (n + 1) 0 < 2000000000
 ·obtain ⟨u', f1, f2⟩ := est_l0 u v hu hv n hn hl hb h1 hlt q.toNat q (t - q * v.getD (n + 1) 0) (by omega) hq1 (by omega) hrr (by omega) hQq
  refine ⟨u', ?_, f2⟩
  rw [show ((v.length : Nat) : Int) = ((n + 2 : Nat) : Int) by omega] at f1
  exact Ev.pos (by omega) (Ev.pos (by omega) (Ev.pos (by omega) (Ev.pos (by omega) (Ev.pos (by omega) (Ev.neg (by omega) f1)))))
 ·omega
set_option linter.unusedVariables false
set_option linter.unusedSimpArgs false
theorem vl_small {l : List Int} (hd : Sv.Digs 1000000000 l) (k : Nat) (hk : k ≤ l.length) (h : Sv.vl 1000000000 l < Sv.pw 1000000000 k) : Sv.vl 1000000000 (l.drop k) = 0 ∧ Sv.vl 1000000000 (l.take k) = Sv.vl 1000000000 l := by
 have h1 := Sv.v_split 1000000000 l k hk
 have h2 := Sv.vl_nonneg (B := 1000000000) (by decide) (Sv.d_drop hd k)
 have h3 := Sv.vl_nonneg (B := 1000000000) (by decide) (Sv.d_take hd k)
 have h4 := Sv.pw_pos (B := 1000000000) (by decide) k
 have h5 : Sv.vl 1000000000 (l.drop k) = 0 := by
  rcases (show Sv.vl 1000000000 (l.drop k) = 0 ∨ 1 ≤ Sv.vl 1000000000 (l.drop k) by omega) with h | h
  ·exact h
  ·have := Int.mul_le_mul_of_nonneg_left h (show 0 ≤ Sv.pw 1000000000 k by omega)
   omega
 rw [h5, Int.mul_zero] at h1
 exact ⟨h5, by omega⟩
theorem bi_estW (u v : List Int) (hu : Sv.Digs 1000000000 u) (hv : Sv.Digs 1000000000 v) (n : Nat) (hn : v.length = n + 2) (j : Nat) (hj : j + (n + 3) ≤ u.length) (hb : u.length ≤ 1000000000000) (h1 : 1 ≤ v.getD (n + 1) 0)
  (hlt : Sv.vl 1000000000 (u.drop j) < 1000000000 * Sv.vl 1000000000 v) :
  ∃ u', Ev (fun k => bIestimateW.f k u j v) (Sv.vl 1000000000 (u.drop j) / Sv.vl 1000000000 v, u') ∧ u'.length = u.length ∧ Sv.Digs 1000000000 u' ∧ Sv.vl 1000000000 (u'.drop j) = Sv.vl 1000000000 (u.drop j) % Sv.vl 1000000000 v ∧ Sv.vl 1000000000 u' = Sv.vl 1000000000 (u.take j) + Sv.pw 1000000000 j * (Sv.vl 1000000000 (u.drop j) % Sv.vl 1000000000 v) := by
 have hdj := Sv.d_drop hu j
 have hV := Sv.v_lt (B := 1000000000) (by decide) hv
 rw [hn] at hV
 have hp : Sv.pw 1000000000 (n + 3) = 1000000000 * Sv.pw 1000000000 (n + 2) := Sv.pw_s _ _
 obtain ⟨z, e⟩ := vl_small hdj (n + 3) (by rw [List.length_drop]; omega) (by omega)
 have hlw : ((u.drop j).take (n + 3)).length = n + 3 := by rw [List.length_take, List.length_drop]; omega
 obtain ⟨w, f1, f2, f3, f4⟩ := bi_estimate ((u.drop j).take (n + 3)) v (Sv.d_take hdj _) hv n hn hlw (by omega) h1 (by rw [e]; exact hlt)
 rw [e] at f1 f4
 rw [hlw] at f2
 have hz : Sv.vl 1000000000 (u.drop (j + (n + 3))) = 0 := by rw [← List.drop_drop]; exact z
 refine ⟨u.take j ++ w ++ u.drop (j + (n + 3)), ?_, ?_, ?_, ?_, ?_⟩
 ·unfold bIestimateW.f
  rw [hn, Int.toNat_natCast]
  exact Ev.pos ⟨by omega, by omega⟩ (Ev.bind f1 (Ev.of rfl))
 ·rw [List.length_append, List.length_append, List.length_take, List.length_drop, f2]; omega
 ·exact ((Sv.d_take hu j).append f3).append (Sv.d_drop hu _)
 ·have : (u.take j ++ w ++ u.drop (j + (n + 3))).drop j = w ++ u.drop (j + (n + 3)) := by
   rw [List.append_assoc]
   exact List.drop_left' (by rw [List.length_take]; omega)
  rw [this, Sv.v_app, hz, Int.mul_zero, Int.add_zero, f4]
 ·rw [List.append_assoc, Sv.v_app, Sv.v_app, hz, Int.mul_zero, Int.add_zero, f4, List.length_take, Nat.min_eq_left (by omega)]
theorem div_l1 (v : List Int) (hv : Sv.Digs 1000000000 v) (n : Nat) (hn : v.length = n + 2) (h1 : 1 ≤ v.getD (n + 1) 0) (V T s : Nat) (hV : Sv.vl 1000000000 v = V) (hV0 : 0 < V) (hs0 : 0 < s) (hs1 : s < 1000000000) (m : Nat) (hm : m ≤ 1000000000000) (hmn : n + 2 ≤ m) (i : Nat) :
  ∀ (u out : List Int), u.length = m → out.length = m - (n + 2) → i ≤ m - (n + 2) → Sv.Digs 1000000000 u → Sv.Digs 1000000000 out → (∀ p, p < i → out.getD p 0 = 0) → Sv.vl 1000000000 (u.drop i) < V →
   (T : Int) = V * (Sv.pw 1000000000 i * Sv.vl 1000000000 (out.drop i)) + Sv.vl 1000000000 u →
   Ev (fun k => bIdivide.l1 k [(s : Int)] u v out ((i : Int) - 1)) (mag (T / V), mag (T % V / s)) := by
 induction i with
 | zero =>
  intro u out hu ho hi hdu hdo hz hlt hT
  refine Ev.succ ?_
  simp only [bIdivide.l1]
  rw [List.drop_zero] at hlt hT
  rw [Sv.pw_zero, Int.one_mul] at hT
  obtain ⟨e1, e2⟩ := div_of (by omega) hT (Sv.vl_nonneg (by decide) hdu) hlt
  have c1 : Sv.cut u = mag (T % V) := cut_mag hdu (by rw [← e2]; rfl)
  have c2 : Sv.cut out = mag (T / V) := cut_mag hdo (by rw [← e1]; rfl)
  refine Ev.neg (by omega) (Ev.bind (bi_trim u (by omega)) (Ev.pos (by simp) ?_))
  rw [c1]
  have hl : (mag (T % V)).length ≤ 1000000000000 := by
   rw [← c1]
   obtain ⟨k, hk⟩ := Sv.cut_spec u
   have := congrArg List.length hk
   rw [List.length_append] at this
   omega
  refine Ev.bind (bi_short (T % V) s hs0 hs1 hl) (Ev.bind (bi_trim out (by omega)) (Ev.of ?_))
  rw [c2]
 | succ j ih =>
  intro u out hu ho hi hdu hdo hz hlt hT
  have ed := drop_s u j (by omega)
  have hA : Sv.vl 1000000000 (u.drop j) < 1000000000 * Sv.vl 1000000000 v := by
   have := Sv.g_digs (B := 1000000000) (by decide) hdu j
   rw [hV]
   omega
  obtain ⟨u', f1, f2, f3, f4, f5⟩ := bi_estW u v hdu hv n hn j (by omega) (by omega) h1 hA
  have eo := drop_s (out.set j (Sv.vl 1000000000 (u.drop j) / Sv.vl 1000000000 v)) j (by rw [List.length_set]; omega)
  have e2 : (out.set j (Sv.vl 1000000000 (u.drop j) / Sv.vl 1000000000 v)).drop (j + 1) = out.drop (j + 1) := List.drop_set_of_lt (by omega)
  rw [Sv.g_set_eq _ _ _ (by omega), e2] at eo
  have hA0 := Sv.vl_nonneg (B := 1000000000) (by decide) (Sv.d_drop hdu j)
  have q0 := Int.ediv_nonneg hA0 (show 0 ≤ Sv.vl 1000000000 v by omega)
  have q1 : Sv.vl 1000000000 (u.drop j) / Sv.vl 1000000000 v < 1000000000 := Int.ediv_lt_of_lt_mul (by omega) hA
  have m1 := Int.emod_lt_of_pos (Sv.vl 1000000000 (u.drop j)) (show 0 < Sv.vl 1000000000 v by omega)
  have hdm := Int.mul_ediv_add_emod (Sv.vl 1000000000 (u.drop j)) (Sv.vl 1000000000 v)
  have hsp := Sv.v_split 1000000000 u j (by omega)
  refine Ev.succ ?_
  simp only [bIdivide.l1]
  rw [show ((j + 1 : Nat) : Int) - 1 = (j : Int) by omega]
  refine Ev.pos (by omega) (Ev.bind f1 (Ev.pos (by omega) (Ev.pos (by omega) ?_)))
  rw [(w64 (by omega) (by omega) : wrap64 ((j : Int) - 1) = (j : Int) - 1), Int.toNat_natCast]
  dsimp only
  refine ih u' _ (by omega) (by rw [List.length_set]; exact ho) (by omega) f3 (Sv.d_set hdo _ q0 q1) (fun p hp => ?_) (by omega) ?_
  ·rw [Sv.g_set _ _ _ _ (by omega)]; exact hz p (by omega)
  ·rw [hT, eo, f5, hsp, Sv.pw_s]
   rw [hV] at hdm ⊢
   generalize Sv.vl 1000000000 (u.drop j) = A at *
   generalize A / (V : Int) = Q at *
   generalize A % (V : Int) = M at *
   rw [← hdm]
   generalize Sv.pw 1000000000 j = I at *
   generalize Sv.vl 1000000000 (out.drop (j + 1)) = O at *
   generalize Sv.vl 1000000000 (u.take j) = X at *
   generalize (V : Int) = W
   clear ih hT eo f1 f2 f3 f4 f5 hsp hdm m1 q0 q1 hA0 hA ed
   grind
theorem div_l0 (x0 v : List Int) (hv : Sv.Digs 1000000000 v) (n : Nat) (hn : v.length = n + 2) (hvz : Sv.NoZ v) (V T s : Nat) (hV : Sv.vl 1000000000 v = V) (hs0 : 0 < s) (hs1 : s < 1000000000) (hx : x0.length ≤ 100000000000) (d : Nat) :
  ∀ (u1 : List Int), x0.length - u1.length = d → u1.length ≤ 200000000000 → n + 1 ≤ u1.length → Sv.Digs 1000000000 u1 → Sv.vl 1000000000 u1 = T →
   Ev (fun k => bIdivide.l0 k x0 [(s : Int)] (u1 ++ [0]) v) (mag (T / V), mag (T % V / s)) := by
 have hvl : v ≠ [] := by intro e; rw [e] at hn; simp at hn
 have hvp := Sv.v_pos (B := 1000000000) (by decide) hv hvz hvl
 rw [hn] at hvp
 have h1 : 1 ≤ v.getD (n + 1) 0 := by
  have g := Sv.g_digs (B := 1000000000) (by decide) hv (n + 1)
  have : v.getD (n + 1) 0 ≠ 0 := by
   intro e
   apply hvz
   rw [List.getLast?_eq_getElem?, hn, show n + 2 - 1 = n + 1 by omega, List.getElem?_eq_getElem (by omega)]
   simp only [List.getD, List.getElem?_eq_getElem (show n + 1 < v.length by omega), Option.getD_some] at e
   rw [e]
  omega
 have pp := Sv.pw_pos (B := 1000000000) (by decide) (n + 2 - 1)
 induction d with
 | zero =>
  intro u1 hd hb hnu hdu hT
  refine Ev.succ ?_
  simp only [bIdivide.l0]
  have hl : (u1 ++ [0]).length = u1.length + 1 := by simp
  rw [hl, hn, (w64n (n := u1.length + 1 - (n + 2)) (by omega) (by omega) : wrap64 (((u1.length + 1 : Nat) : Int) - ((n + 2 : Nat) : Int)) = _), Int.toNat_natCast, (w64 (by omega) (by omega) : wrap64 (((u1.length + 1 - (n + 2) : Nat) : Int) - 1) = ((u1.length + 1 - (n + 2) : Nat) : Int) - 1)]
  refine Ev.neg (by omega) (Ev.pos (by omega) (Ev.pos (by omega) ?_))
  have ed : (u1 ++ [0]).drop (u1.length + 1 - (n + 2)) = u1.drop (u1.length + 1 - (n + 2)) ++ [0] := List.drop_append_of_le_length (by omega)
  have hd0 : Sv.Digs 1000000000 (u1 ++ [0]) := hdu.append (Sv.Digs.cons (by omega) (by omega) (Sv.Digs.nil _))
  refine div_l1 v hv n hn h1 V T s hV (by omega) hs0 hs1 (u1.length + 1) (by omega) (by omega) _ _ _ hl (by simp) (Nat.le_refl _) hd0 (Sv.d_rep (by decide) _) (fun p _ => Sv.g_rep _ _) ?_ ?_
  ·rw [ed, Sv.v_app, Sv.vl_cons, Sv.vl_nil, Int.mul_zero, Int.add_zero, Int.mul_zero, Int.add_zero]
   have := Sv.v_lt (B := 1000000000) (by decide) (Sv.d_drop hdu (u1.length + 1 - (n + 2)))
   rw [List.length_drop, show u1.length - (u1.length + 1 - (n + 2)) = n + 2 - 1 by omega] at this
   omega
  ·have e : (List.replicate (u1.length + 1 - (n + 2)) (0 : Int)).drop (u1.length + 1 - (n + 2)) = [] := List.drop_of_length_le (by simp)
   rw [e, Sv.vl_nil, Int.mul_zero, Int.mul_zero, Sv.v_app, Sv.vl_cons, Sv.vl_nil, hT]
   omega
 | succ d ih =>
  intro u1 hd hb hnu hdu hT
  have hd0 : Sv.Digs 1000000000 (u1 ++ [0]) := hdu.append (Sv.Digs.cons (by omega) (by omega) (Sv.Digs.nil _))
  refine Ev.succ ?_
  simp only [bIdivide.l0]
  have hl : (u1 ++ [0]).length = u1.length + 1 := by simp
  have hv0 : Sv.vl 1000000000 (u1 ++ [0]) = T := by
   rw [Sv.v_app, Sv.vl_cons, Sv.vl_nil, hT]; omega
  refine Ev.pos (by omega) (Ev.pos (by omega) ?_)
  exact ih (u1 ++ [0]) (by omega) (by omega) (by omega) hd0 hv0
theorem mag_one {s : Nat} (h0 : 0 < s) (h1 : s < 1000000000) : mag s = [(s : Int)] := by
 show Sv.dg 1000000000 s = _
 rw [Sv.dg_pos (by omega) h0, Nat.div_eq_of_lt h1, Sv.dg_zero, Nat.mod_eq_of_lt h1]
theorem getD_top {m : Nat} (h : 0 < m) : 1 ≤ (mag m).getD ((mag m).length - 1) 0 ∧ (mag m).getD ((mag m).length - 1) 0 < 1000000000 := by
 have hl : 0 < (mag m).length := List.length_pos_iff.2 (mag_ne h)
 have g := Sv.g_digs (B := 1000000000) (by decide) (mag_digs m) ((mag m).length - 1)
 have : (mag m).getD ((mag m).length - 1) 0 ≠ 0 := by
  intro e
  apply mag_noz m
  rw [List.getLast?_eq_getElem?, List.getElem?_eq_getElem (by omega)]
  simp only [List.getD, List.getElem?_eq_getElem (show (mag m).length - 1 < (mag m).length by omega), Option.getD_some] at e
  rw [e]
 omega
theorem mag_mul_len (m s : Nat) (hs : s < 1000000000) : (mag (m * s)).length ≤ (mag m).length + 1 := by
 refine Sv.dg_length_le (by omega) ?_
 have h := Sv.lt_of_dg_length (b := 1000000000) (by omega) m
 rw [Nat.pow_succ]
 exact Nat.mul_lt_mul'' h hs
theorem bi_divide (x y : Nat) (hy : 0 < y) (hx : (mag x).length ≤ 10000000000) (hyl : (mag y).length ≤ 10000000000) : Ev (fun k => bIdivide.f k (mag x) (mag y)) (mag (x / y), mag (x % y)) := by
 obtain ⟨t, ht, hlt⟩ := bi_order x y (by omega) (by omega)
 unfold bIdivide.f
 refine Ev.bs ht ?_
 by_cases h : t < 0
 ·refine Ev.pos h (Ev.of ?_)
  have hxy := hlt.1 h
  rw [Nat.div_eq_of_lt hxy, Nat.mod_eq_of_lt hxy, mag_zero]
 ·refine Ev.neg h ?_
  have hxy : y ≤ x := by have := mt hlt.2 h; omega
  have hl0 : 0 < (mag y).length := List.length_pos_iff.2 (mag_ne hy)
  by_cases h1 : (mag y).length = 1
  ·have hyB : y < 1000000000 := by
    have := Sv.lt_of_dg_length (b := 1000000000) (by omega) y
    rw [show (Sv.dg 1000000000 y).length = 1 from h1, Nat.pow_one] at this
    exact this
   have e0 : rd (mag y) 0 = (y : Int) := by rw [mag_one hy hyB]; rfl
   rw [e0]
   refine Ev.pos (by omega) (Ev.pos (by omega) (Ev.bind (bi_short x y hy hyB (by omega)) ?_))
   have hm := Nat.mod_lt x hy
   refine Ev.bind (bi_trim _ (by simp)) (Ev.of ?_)
   rw [cut_mag (n := x % y) (Sv.Digs.cons (by omega) (by omega) (Sv.Digs.nil _)) (by rw [Sv.vl_cons, Sv.vl_nil]; omega)]
  ·obtain ⟨g0, g1⟩ := getD_top hy
   obtain ⟨n, hn⟩ : ∃ n, (mag y).length = n + 2 := ⟨(mag y).length - 2, by omega⟩
   rw [hn, show n + 2 - 1 = n + 1 by omega] at g0 g1
   obtain ⟨top, htop⟩ := Int.eq_ofNat_of_zero_le (show 0 ≤ (mag y).getD (n + 1) 0 by omega)
   obtain ⟨s, hs⟩ : ∃ s : Nat, s = 1000000000 / (top + 1) := ⟨_, rfl⟩
   have hs0 : 0 < s := by rw [hs]; exact Nat.div_pos (by omega) (by omega)
   have hs1 : s < 1000000000 := by
    have : s ≤ 1000000000 / 2 := by rw [hs]; exact Nat.div_le_div_left (by omega) (by omega)
    omega
   have hsi : Int.tdiv 1000000000 ((top : Int) + 1) = (s : Int) := by
    rw [Int.tdiv_eq_ediv_of_nonneg (by omega), hs]; rfl
   have l1 := mag_mul_len x s hs1
   have l2 := mag_mul_len y s hs1
   rw [hn, (w64n (by omega) (by omega) : wrap64 (((n + 2 : Nat) : Int) - 1) = ((n + 1 : Nat) : Int)), rd_nat, htop, (w64 (by omega) (by omega) : wrap64 ((top : Int) + 1) = (top : Int) + 1), hsi, (w64 (by omega) (by omega) : wrap64 (s : Int) = (s : Int))]
   refine Ev.neg (by omega) (Ev.pos (by omega) (Ev.pos (by omega) (Ev.neg (by omega) (Ev.bs rfl ?_))))
   rw [← mag_one hs0 hs1]
   refine Ev.bind (bi_times x s (by rw [mag_one hs0 hs1]; simp; omega)) (Ev.pos (by omega) (Ev.bind (bi_times y s (by rw [mag_one hs0 hs1]; simp; omega)) ?_))
   have hys : y ≤ y * s := Nat.le_mul_of_pos_right _ hs0
   have hxs : y * s ≤ x * s := Nat.mul_le_mul_right _ hxy
   have m1 := mag_mono hys
   have m2 := mag_mono hxs
   rw [mag_one hs0 hs1]
   obtain ⟨n', hn'⟩ : ∃ n', (mag (y * s)).length = n' + 2 := ⟨(mag (y * s)).length - 2, by omega⟩
   refine (div_l0 (mag x) (mag (y * s)) (mag_digs _) n' hn' (mag_noz _) (y * s) (x * s) s (vl_mag _) hs0 hs1 (by omega) _ (mag (x * s)) rfl (by omega) (by omega) (mag_digs _) (vl_mag _)).eq ?_
   rw [Nat.mul_div_mul_right _ _ hs0, Nat.mul_mod_mul_right, Nat.mul_div_cancel _ hs0]
set_option linter.unusedVariables false
set_option linter.unusedSimpArgs false
def sv (b : Bool) (N : Nat) : Int := if b = true then -(N : Int) else N
theorem sv_abs (b : Bool) (N : Nat) : (sv b N).natAbs = N := by unfold sv; split <;> omega
theorem sv_of (n : Int) : sv (decide (n < 0)) n.natAbs = n := by
 unfold sv
 by_cases h : n < 0
 ·rw [if_pos (decide_eq_true h)]; omega
 ·rw [if_neg (by simpa using h)]; omega
theorem mag_len_nd (n : Int) : (mag n.natAbs).length ≤ Sv.nd n := by
 refine Sv.dg_length_le (by omega) (Nat.lt_of_lt_of_le (natAbs_lt_nd n) ?_)
 exact Nat.pow_le_pow_left (by omega) _
theorem mag_len_lt {N : Nat} {k : Nat} (h : N < 1000000000 ^ k) : (mag N).length ≤ k := Sv.dg_length_le (by omega) h
theorem lt_mag_len (N : Nat) : N < 1000000000 ^ (mag N).length := Sv.lt_of_dg_length (b := 1000000000) (by omega) N
theorem mag_add_len (M N k : Nat) (hM : (mag M).length ≤ k) (hN : (mag N).length ≤ k) : (mag (M + N)).length ≤ k + 1 := by
 refine mag_len_lt ?_
 have h1 := Nat.lt_of_lt_of_le (lt_mag_len M) (Nat.pow_le_pow_right (by omega) hM)
 have h2 := Nat.lt_of_lt_of_le (lt_mag_len N) (Nat.pow_le_pow_right (by omega) hN)
 rw [Nat.pow_succ]
 omega
theorem mag_mul_len2 (M N : Nat) : (mag (M * N)).length ≤ (mag M).length + (mag N).length := by
 refine mag_len_lt ?_
 rw [Nat.pow_add]
 exact Nat.mul_lt_mul'' (lt_mag_len M) (lt_mag_len N)
theorem bi_sum (b0 : Bool) (M : Nat) (b1 : Bool) (N : Nat) (hM : (mag M).length ≤ 1000000000) (hN : (mag N).length ≤ 1000000000) :
  ∃ b P, Ev (fun k => bIsum.f k b0 (mag M) b1 (mag N)) (b, mag P) ∧ sv b P = sv b0 M + sv b1 N := by
 unfold bIsum.f
 by_cases h : b0 = b1
 ·subst h
  refine ⟨b0, M + N, Ev.pos rfl (Ev.bind (bi_plus M N (by omega) (by omega)) (Ev.of rfl)), ?_⟩
  unfold sv
  split <;> omega
 ·obtain ⟨t, ht, hlt⟩ := bi_order M N (by omega) (by omega)
  by_cases hc : t < 0
  ·have := hlt.1 hc
   refine ⟨!b0, N - M, Ev.neg h (Ev.bs ht ?_), ?_⟩
   ·simp only [if_pos hc]
    refine Ev.bind (bi_minus N M (by omega) (by omega)) (Ev.of ?_)
    rw [decide_eq_true hc, Bool.true_bne]
   ·unfold sv
    cases b0 <;> cases b1 <;> simp at h ⊢ <;> omega
  ·have := mt hlt.2 hc
   refine ⟨b0, M - N, Ev.neg h (Ev.bs ht ?_), ?_⟩
   ·simp only [if_neg hc]
    refine Ev.bind (bi_minus M N (by omega) (by omega)) (Ev.of ?_)
    rw [decide_eq_false hc, Bool.false_bne]
   ·unfold sv
    cases b0 <;> cases b1 <;> simp at h ⊢ <;> omega
theorem sv_not (b : Bool) (N : Nat) : sv (!b) N = -sv b N := by unfold sv; cases b <;> simp
theorem sv_mul (b0 b1 : Bool) (M N : Nat) : sv (b0 != b1) (M * N) = sv b0 M * sv b1 N := by
 unfold sv
 cases b0 <;> cases b1 <;> simp [Int.neg_mul, Int.mul_neg, Int.neg_mul_neg]
theorem bi_product (b0 : Bool) (M : Nat) (b1 : Bool) (N : Nat) (hM : (mag M).length ≤ 1000000000) (hN : (mag N).length ≤ 1000000000) :
  Ev (fun k => bIproduct.f k b0 (mag M) b1 (mag N)) (b0 != b1, mag (M * N)) := by
 unfold bIproduct.f
 exact Ev.bind (bi_times M N (by omega)) (Ev.of rfl)
theorem bi_sign (b : Bool) (N : Nat) : bIsign.f b (mag N) = some (sv b N).sign := by
 unfold bIsign.f sv
 by_cases h : N = 0
 ·subst h; rw [mag_zero]; cases b <;> rfl
 ·have := mt (mag_len0 N).1 h
  rw [if_neg (by omega)]
  cases b
  ·rw [if_neg (by simp), if_neg (by simp), Int.sign_eq_one_of_pos (by omega)]
  ·rw [if_pos rfl, if_pos rfl, Int.sign_eq_neg_one_of_neg (by omega)]
theorem bi_quotient (b0 : Bool) (M : Nat) (b1 : Bool) (N : Nat) (hN0 : 0 < N) (hM : (mag M).length ≤ 1000000000) (hN : (mag N).length ≤ 1000000000) :
  ∃ b P c R, Ev (fun k => bIquotient.f k b0 (mag M) b1 (mag N)) (b, mag P, c, mag R) ∧ sv b P = (sv b0 M).fdiv (sv b1 N) ∧ sv c R = (sv b0 M).fmod (sv b1 N) ∧ P ≤ M + 1 ∧ R < N := by
 unfold bIquotient.f
 have hdm := Nat.div_add_mod M N
 have hmod := Nat.mod_lt M hN0
 have hq : M / N ≤ M := Nat.div_le_self _ _
 have hI : (N : Int) * ((M / N : Nat) : Int) + ((M % N : Nat) : Int) = M := by rw [← Int.natCast_mul]; omega
 have hdiv := bi_divide M N hN0 (by omega) (by omega)
 have hlq := mag_mono hq
 generalize M / N = Q at *
 generalize M % N = R at *
 by_cases h : b0 = b1
 ·subst h
  refine ⟨false, Q, b0, R, Ev.bind hdiv (Ev.pos (by simp) (Ev.of rfl)), ?_⟩
  have key : sv b0 M = sv b0 N * (Q : Int) + sv b0 R ∧ ((0 ≤ sv b0 R ∧ sv b0 R < sv b0 N) ∨ (sv b0 N < sv b0 R ∧ sv b0 R ≤ 0)) := by
   unfold sv
   cases b0
   ·simp only [Bool.false_eq_true, if_false]; omega
   ·simp only [if_true]; rw [Int.neg_mul]; omega
  obtain ⟨e1, e2⟩ := fdiv_uniq key.1 key.2
  exact ⟨by rw [e1]; rfl, e2.symm, by omega, hmod⟩
 ·by_cases hR : R = 0
  ·subst hR
   have hl : ¬ ((mag 0).length : Int) > 0 := by rw [mag_zero]; simp
   refine ⟨true, Q, b1, 0, Ev.bind hdiv (Ev.neg (by simpa using h) (Ev.neg hl (Ev.of rfl))), ?_⟩
   have key : sv b0 M = sv b1 N * (-(Q : Int)) + 0 := by
    unfold sv
    cases b0 <;> cases b1 <;> simp [Int.neg_mul, Int.mul_neg, Int.neg_mul_neg] at h ⊢ <;> omega
   have hn0 : sv b1 N ≠ 0 := by unfold sv; split <;> omega
   obtain ⟨e1, e2⟩ := fdiv_uniq key (by omega)
   refine ⟨by rw [e1]; rfl, ?_, by omega, by omega⟩
   rw [e2]; unfold sv; split <;> omega
  ·have hl : ((mag R).length : Int) > 0 := by have := mt (mag_len0 R).1 hR; omega
   have m1 : ([1] : List Int) = mag 1 := (mag_one (s := 1) (by omega) (by omega)).symm
   refine ⟨true, Q + 1, b1, N - R, Ev.bind hdiv (Ev.neg (by simpa using h) (Ev.pos hl ?_)), ?_⟩
   ·rw [m1]
    exact Ev.bind (bi_plus Q 1 (by omega) (by rw [← m1]; simp)) (Ev.bind (bi_minus N R (by omega) (by omega)) (Ev.of rfl))
   ·have key : sv b0 M = sv b1 N * (-((Q + 1 : Nat) : Int)) + sv b1 (N - R) ∧ ((0 ≤ sv b1 (N - R) ∧ sv b1 (N - R) < sv b1 N) ∨ (sv b1 N < sv b1 (N - R) ∧ sv b1 (N - R) ≤ 0)) := by
     have e : (N : Int) * ((Q + 1 : Nat) : Int) = N * Q + N := by rw [Int.natCast_add, Int.mul_add]; simp
     unfold sv
     cases b0 <;> cases b1 <;> simp at h
     ·simp only [Bool.false_eq_true, if_false, if_true]; rw [Int.neg_mul_neg, e]; omega
     ·simp only [Bool.false_eq_true, if_false, if_true]; rw [Int.mul_neg, e]; omega
    obtain ⟨e1, e2⟩ := fdiv_uniq key.1 key.2
    exact ⟨by rw [e1]; rfl, e2.symm, by omega, by omega⟩
theorem bi_common_l (y : Nat) : ∀ x : Nat, (mag x).length ≤ 1000000000 → (mag y).length ≤ 1000000000 → Ev (fun k => bIcommon.l0 k (mag x) (mag y)) (mag (Nat.gcd x y)) := by
 induction y using Nat.strongRecOn with
 | ind y ih =>
  intro x hx hy
  refine Ev.succ ?_
  simp only [bIcommon.l0]
  by_cases h : y = 0
  ·subst h
   refine Ev.neg (by rw [mag_zero]; simp) (Ev.of ?_)
   rw [Nat.gcd_zero_right]
  ·refine Ev.pos (by have := mt (mag_len0 y).1 h; omega) (Ev.bind (bi_divide x y (by omega) (by omega) (by omega)) ?_)
   have hlt := Nat.mod_lt x (show 0 < y by omega)
   refine (ih (x % y) hlt y hy (Nat.le_trans (mag_mono (by omega)) hy)).eq ?_
   congr 1
   rw [Nat.gcd_comm x y, Nat.gcd_rec y x, Nat.gcd_comm]
theorem bi_common (x y : Nat) (hx : (mag x).length ≤ 1000000000) (hy : (mag y).length ≤ 1000000000) : Ev (fun k => bIcommon.f k (mag x) (mag y)) (mag (Nat.gcd x y)) := bi_common_l y x hx hy
theorem small_size {n : Int} (h : Sv.nd n ≤ 4096) : (Sv.txt n).size ≤ 4097 := by rw [Sv.txt_size]; split <;> omega
theorem bi_pair (m n : Int) (hm : Sv.nd m ≤ 4096) (hn : Sv.nd n ≤ 4096) : Ev (fun k => bIpair.f k (Sv.txt m) (Sv.txt n)) (decide (m < 0), mag m.natAbs, decide (n < 0), mag n.natAbs, 0) := by
 unfold bIpair.f
 have s1 := small_size hm
 have s2 := small_size hn
 refine Ev.bs (bi_Check _ (by omega)) (Ev.pos (chkI_small hm) (Ev.bs (bi_Check _ (by omega)) (Ev.pos (chkI_small hn) ?_)))
 exact Ev.bind (bi_read m (by omega)) (Ev.bind (bi_read n (by omega)) (Ev.of rfl))
theorem len_of_nd {n : Int} (h : Sv.nd n ≤ 4096) : (mag n.natAbs).length ≤ 4096 := Nat.le_trans (mag_len_nd n) h
theorem sum_len {b : Bool} {P : Nat} {m n : Int} (h : sv b P = m + n) (hm : Sv.nd m ≤ 4096) (hn : Sv.nd n ≤ 4096) : (mag P).length ≤ 4097 := by
 have h1 := sv_abs b P
 rw [h] at h1
 have h2 := mag_add_len _ _ 4096 (len_of_nd hm) (len_of_nd hn)
 exact Nat.le_trans (mag_mono (show P ≤ m.natAbs + n.natAbs by omega)) h2
theorem bi_Add (m n : Int) (hm : Sv.nd m ≤ 4096) (hn : Sv.nd n ≤ 4096) : Ev (fun k => bIAdd.f k (Sv.txt m) (Sv.txt n)) (lim (m + n)) := by
 unfold bIAdd.f
 have l1 := len_of_nd hm
 have l2 := len_of_nd hn
 obtain ⟨b, P, h1, h2⟩ := bi_sum (decide (m < 0)) m.natAbs (decide (n < 0)) n.natAbs (by omega) (by omega)
 rw [sv_of, sv_of] at h2
 have l3 := sum_len h2 hm hn
 refine Ev.bind (bi_pair m n hm hn) (Ev.pos rfl (Ev.bind h1 (Ev.bs (bi_written b P (by omega)) (Ev.of ?_))))
 rw [← h2]; rfl
theorem bi_negated (b : Bool) (l : List Int) : bInegated.f b l = some (!b, l) := rfl
theorem bi_Sub (m n : Int) (hm : Sv.nd m ≤ 4096) (hn : Sv.nd n ≤ 4096) : Ev (fun k => bISub.f k (Sv.txt m) (Sv.txt n)) (lim (m - n)) := by
 unfold bISub.f
 have l1 := len_of_nd hm
 have l2 := len_of_nd hn
 obtain ⟨b, P, h1, h2⟩ := bi_sum (decide (m < 0)) m.natAbs (!decide (n < 0)) n.natAbs (by omega) (by omega)
 rw [sv_not, sv_of, sv_of] at h2
 have l3 := sum_len h2 hm (by rw [Sv.nd_neg]; exact hn)
 refine Ev.bind (bi_pair m n hm hn) (Ev.pos rfl (Ev.bs (bi_negated _ _) (Ev.bind h1 (Ev.bs (bi_written b P (by omega)) (Ev.of ?_)))))
 rw [Int.sub_eq_add_neg, ← h2]; rfl
theorem bi_Compare (m n : Int) (hm : Sv.nd m ≤ 4096) (hn : Sv.nd n ≤ 4096) : Ev (fun k => bICompare.f k (Sv.txt m) (Sv.txt n)) ((m - n).sign, 0) := by
 unfold bICompare.f
 have l1 := len_of_nd hm
 have l2 := len_of_nd hn
 obtain ⟨b, P, h1, h2⟩ := bi_sum (decide (m < 0)) m.natAbs (!decide (n < 0)) n.natAbs (by omega) (by omega)
 rw [sv_not, sv_of, sv_of] at h2
 refine Ev.bind (bi_pair m n hm hn) (Ev.pos rfl (Ev.bs (bi_negated _ _) (Ev.bind h1 (Ev.bs (bi_sign b P) (Ev.of ?_)))))
 rw [Int.sub_eq_add_neg, ← h2]
theorem nd0 : Sv.nd 0 ≤ 4096 := Nat.le_trans (Sv.nd_le (k := 1) (by omega) (by decide)) (by omega)
theorem nd1 : Sv.nd 1 ≤ 4096 := Nat.le_trans (Sv.nd_le (k := 1) (by omega) (by decide)) (by omega)
theorem bi_Sign (n : Int) (hn : Sv.nd n ≤ 4096) : Ev (fun k => bISign.f k (Sv.txt n)) (n.sign, 0) := by
 unfold bISign.f
 have := bi_Compare n 0 hn nd0
 rw [Int.sub_zero] at this
 exact Ev.bind this (Ev.of rfl)
theorem lim_small {n : Int} (h : Sv.nd n ≤ 4096) : lim n = (Sv.txt n, 0) := if_pos h
theorem bi_Neg (n : Int) (hn : Sv.nd n ≤ 4096) : Ev (fun k => bINeg.f k (Sv.txt n)) (Sv.txt (-n), 0) := by
 unfold bINeg.f
 have := bi_Sub 0 n nd0 hn
 rw [Int.zero_sub, lim_small (by rw [Sv.nd_neg]; exact hn)] at this
 exact Ev.bind this (Ev.of rfl)
theorem bi_Mul (m n : Int) (hm : Sv.nd m ≤ 4096) (hn : Sv.nd n ≤ 4096) : Ev (fun k => bIMul.f k (Sv.txt m) (Sv.txt n)) (lim (m * n)) := by
 unfold bIMul.f
 have l1 := len_of_nd hm
 have l2 := len_of_nd hn
 have l3 := mag_mul_len2 m.natAbs n.natAbs
 refine Ev.bind (bi_pair m n hm hn) (Ev.pos rfl (Ev.bind (bi_product _ _ _ _ (by omega) (by omega)) (Ev.bs (bi_written _ _ (by omega)) (Ev.of ?_))))
 have := sv_mul (decide (m < 0)) (decide (n < 0)) m.natAbs n.natAbs
 rw [sv_of, sv_of] at this
 rw [← this]; rfl
theorem bi_divided (m n : Int) (h0 : n ≠ 0) (hm : Sv.nd m ≤ 4096) (hn : Sv.nd n ≤ 4096) : Ev (fun k => bIdivided.f k (Sv.txt m) (Sv.txt n)) (Sv.txt (m.fdiv n), Sv.txt (m.fmod n), 0) := by
 unfold bIdivided.f
 have l1 := len_of_nd hm
 have l2 := len_of_nd hn
 obtain ⟨b, P, c, R, h1, h2, h3, h4, h5⟩ := bi_quotient (decide (m < 0)) m.natAbs (decide (n < 0)) n.natAbs (by omega) (by omega) (by omega)
 rw [sv_of, sv_of] at h2 h3
 have h6 : (mag P).length ≤ 4097 := Nat.le_trans (mag_mono h4) (mag_add_len _ 1 4096 l1 (by rw [mag_one (s := 1) (by omega) (by omega)]; simp))
 have h7 : (mag R).length ≤ 4096 := Nat.le_trans (mag_mono (by omega)) l2
 have h8 := mt (mag_len0 n.natAbs).1 (by omega)
 refine Ev.bind (bi_pair m n hm hn) (Ev.pos rfl (Ev.neg (show ¬ ((mag n.natAbs).length : Int) = 0 by omega) (Ev.bind h1 (Ev.bs (bi_text b P (by omega)) (Ev.bs (bi_text c R (by omega)) (Ev.of ?_))))))
 rw [← h2, ← h3]; rfl
theorem bi_Quo (m n : Int) (h0 : n ≠ 0) (hm : Sv.nd m ≤ 4096) (hn : Sv.nd n ≤ 4096) : Ev (fun k => bIQuo.f k (Sv.txt m) (Sv.txt n)) (Sv.txt (m.fdiv n), 0) := by
 unfold bIQuo.f
 exact Ev.bind (bi_divided m n h0 hm hn) (Ev.of rfl)
theorem bi_Gcd (m n : Int) (hm : Sv.nd m ≤ 4096) (hn : Sv.nd n ≤ 4096) : Ev (fun k => bIGcd.f k (Sv.txt m) (Sv.txt n)) (Sv.txt (Int.gcd m n), 0) := by
 unfold bIGcd.f
 have l1 := len_of_nd hm
 have l2 := len_of_nd hn
 have l3 : (mag (Nat.gcd m.natAbs n.natAbs)).length ≤ 4096 := by
  by_cases h : m.natAbs = 0
  ·rw [h, Nat.gcd_zero_left]; exact l2
  ·exact Nat.le_trans (mag_mono (Nat.gcd_le_left _ (by omega))) l1
 refine Ev.bind (bi_pair m n hm hn) (Ev.pos rfl (Ev.bind (bi_common _ _ (by omega) (by omega)) (Ev.bs (bi_text false _ (by omega)) (Ev.of rfl))))
set_option linter.unusedVariables false
set_option linter.unusedSimpArgs false
def ix : List UInt8 → Nat
 | [] => 0
 | c :: l => if c = 47 then 0 else ix l + 1
theorem ix_none {l : List UInt8} (h : ∀ c ∈ l, c ≠ 47) : ix l = l.length := by
 induction l with
 | nil => rfl
 | cons c l ih =>
  unfold ix
  rw [if_neg (h c (by simp)), ih fun c hc => h c (by simp [hc])]
  rfl
theorem ix_app {l m : List UInt8} (h : ∀ c ∈ l, c ≠ 47) : ix (l ++ 47 :: m) = l.length := by
 induction l with
 | nil => simp [ix]
 | cons c l ih =>
  rw [List.cons_append]
  unfold ix
  rw [if_neg (h c (by simp)), ih fun c hc => h c (by simp [hc])]
  rfl
theorem ix_split {l : List UInt8} (h : ix l < l.length) : l = l.take (ix l) ++ 47 :: l.drop (ix l + 1) := by
 induction l with
 | nil => simp [ix] at h
 | cons c l ih =>
  unfold ix at h ⊢
  by_cases hc : c = 47
  ·subst hc; simp
  ·rw [if_neg hc] at h ⊢
   have := ih (by simpa using h)
   rw [List.take_succ_cons, List.drop_succ_cons, List.cons_append, ← this]
theorem ib_ix (l : List UInt8) : Lib.indexByte l 47 = if ix l < l.length then (ix l : Int) else -1 := by
 induction l with
 | nil => simp [Lib.indexByte]
 | cons c l ih =>
  unfold Lib.indexByte ix
  by_cases hc : c = 47
  ·subst hc; simp
  ·have : (c == 47) = false := by simpa using hc
   rw [this, if_neg hc]
   by_cases h : ix l < l.length
   ·have h2 : ((ix l : Int) == -1) = false := by rw [beq_eq_false_iff_ne]; omega
    rw [if_pos h] at ih
    rw [ih, h2, if_pos (show ix l + 1 < (c :: l).length by simp; omega)]
    simp
   ·rw [if_neg h] at ih
    rw [ih, if_neg (show ¬ ix l + 1 < (c :: l).length by simp; omega)]
    simp
def hasS (s : ByteArray) : Bool := decide (ix s.data.toList < s.size)
def topS (s : ByteArray) : ByteArray := if hasS s = true then s.extract 0 (ix s.data.toList) else s
def botS (s : ByteArray) : ByteArray := if hasS s = true then s.extract (ix s.data.toList + 1) s.size else ⟨#[49]⟩
theorem slash_ev (s : ByteArray) (hs : s.size ≤ 1000000000000000000) (j : Nat) : ∀ i : Nat, i + j = s.size → Ev (fun k => rFslash.l0 k s i) (if ix (s.data.toList.drop i) < j then ((i + ix (s.data.toList.drop i) : Nat) : Int) else -1) := by
 induction j with
 | zero =>
  intro i hi
  refine Ev.succ ?_
  simp only [rFslash.l0]
  rw [if_neg (by omega)]
  exact Ev.neg (by omega) (Ev.of rfl)
 | succ j ih =>
  intro i hi
  have hi' : i < s.data.toList.length := by rw [sz_list]; omega
  have ed : s.data.toList.drop i = s.data.toList[i] :: s.data.toList.drop (i + 1) := List.drop_eq_getElem_cons hi'
  refine Ev.succ ?_
  simp only [rFslash.l0]
  rw [bt_nat s i (by omega)]
  refine Ev.pos (by omega) (Ev.pos (by omega) ?_)
  rw [ed]
  unfold ix
  by_cases h : s.data.toList[i] = 47
  ·refine Ev.pos (u8_47.2 h) (Ev.of ?_)
   rw [if_pos h, if_pos (by omega)]
   rfl
  ·refine Ev.neg (fun e => h (u8_47.1 e)) ?_
   rw [(w64n (by omega) (by omega) : wrap64 ((i : Int) + 1) = ((i + 1 : Nat) : Int)), if_neg h]
   refine (ih (i + 1) (by omega)).eq ?_
   by_cases hc : ix (s.data.toList.drop (i + 1)) < j
   ·rw [if_pos hc, if_pos (by omega)]; congr 1; omega
   ·rw [if_neg hc, if_neg (by omega)]
theorem ref_slash (s : ByteArray) (hs : s.size ≤ 1000000000000000000) : Ev (fun k => rFslash.f k s) (if hasS s = true then (ix s.data.toList : Int) else -1) := by
 unfold rFslash.f hasS
 refine (slash_ev s hs s.size 0 (by omega)).eq ?_
 simp
theorem hasS_iff {s : ByteArray} : hasS s = true ↔ ix s.data.toList < s.size := by unfold hasS; exact decide_eq_true_iff
theorem ref_Top (s : ByteArray) (hs : s.size ≤ 1000000000000000000) : Ev (fun k => rFTop.f k s) (topS s) := by
 unfold rFTop.f topS
 refine Ev.bind (ref_slash s hs) ?_
 by_cases h : hasS s = true
 ·have := hasS_iff.1 h
  rw [if_pos h, if_pos h, Int.toNat_natCast]
  exact Ev.pos (by omega) (Ev.pos (by omega) (Ev.pos (by omega) (Ev.of rfl)))
 ·rw [if_neg h, if_neg h]
  exact Ev.neg (by omega) (Ev.of rfl)
theorem ref_Bottom (s : ByteArray) (hs : s.size ≤ 1000000000000000000) : Ev (fun k => rFBottom.f k s) (botS s) := by
 unfold rFBottom.f botS
 refine Ev.bind (ref_slash s hs) ?_
 by_cases h : hasS s = true
 ·have := hasS_iff.1 h
  rw [if_pos h, if_pos h, (w64n (by omega) (by omega) : wrap64 ((ix s.data.toList : Int) + 1) = ((ix s.data.toList + 1 : Nat) : Int)), Int.toNat_natCast]
  exact Ev.pos (by omega) (Ev.pos (by omega) (Ev.pos (by omega) (Ev.of rfl)))
 ·rw [if_neg h, if_neg h]
  exact Ev.neg (by omega) (Ev.of rfl)
theorem rat_split (s : ByteArray) (hs : s.size ≤ 1000000000000000000) : rAsplit.f s = some (topS s, botS s) := by
 unfold rAsplit.f strings_IndexByte.f topS botS
 have e : Lib.indexByte s.data.toList (47 : Int).toNat.toUInt8 = if hasS s = true then (ix s.data.toList : Int) else -1 := by
  have := ib_ix s.data.toList
  rw [sz_list] at this
  unfold hasS
  simp only [decide_eq_true_iff]
  exact this
 rw [e, Option.bind_some]
 by_cases h : hasS s = true
 ·have := hasS_iff.1 h
  rw [if_pos h, if_pos h, if_pos h]
  rw [(w64n (by omega) (by omega) : wrap64 ((ix s.data.toList : Int) + 1) = ((ix s.data.toList + 1 : Nat) : Int)), Int.toNat_natCast, Int.toNat_natCast]
  rw [if_pos (by omega), if_pos (by omega), if_pos (by omega), if_pos (by omega), if_pos (by omega)]
 ·rw [if_neg h, if_neg h, if_neg h, if_neg (by omega)]
theorem rat_contains (s : ByteArray) : strings_Contains.f s ⟨#[47]⟩ = some (hasS s) := by
 show some (decide (0 ≤ Lib.indexByte s.data.toList 47)) = _
 rw [ib_ix, sz_list]
 unfold hasS
 congr 1
 by_cases h : ix s.data.toList < s.size
 ·rw [if_pos h]; simp [h]
 ·rw [if_neg h]; simp [h]
theorem ext_list (s : ByteArray) (a b : Nat) : (s.extract a b).data.toList = (s.data.toList.drop a).take (b - a) := by rw [← ByteArray.toList_eq, Lib.extract_toList]
theorem rtxt_cases (q : Rat) : (q.den = 1 ∧ Sv.rtxt q = Sv.txt q.num) ∨ (q.den ≠ 1 ∧ (Sv.rtxt q).data.toList = Sv.txtL q.num ++ 47 :: Sv.txtL q.den) := by
 by_cases h : q.den = 1
 ·left; refine ⟨h, ?_⟩; unfold Sv.rtxt; rw [if_pos h]
 ·right; refine ⟨h, ?_⟩; rw [Sv.rtxt_toList, if_neg h]
theorem hasS_txt (n : Int) : hasS (Sv.txt n) = false := by
 unfold hasS
 rw [← sz_list, show (Sv.txt n).data.toList = Sv.txtL n from rfl, ix_none (Sv.txtL_ne47 n)]
 simp
theorem hasS_rtxt (q : Rat) : hasS (Sv.rtxt q) = decide (q.den ≠ 1) := by
 rcases rtxt_cases q with ⟨h, e⟩ | ⟨h, e⟩
 ·rw [e, hasS_txt]; simp [h]
 ·unfold hasS
  rw [← sz_list, e, ix_app (Sv.txtL_ne47 _)]
  simp [h]
theorem txtL_len (n : Int) : (Sv.txtL n).length = (Sv.txt n).size := by rw [← sz_list]; rfl
theorem topS_rtxt (q : Rat) : topS (Sv.rtxt q) = Sv.txt q.num := by
 unfold topS
 rw [hasS_rtxt]
 rcases rtxt_cases q with ⟨h, e⟩ | ⟨h, e⟩
 ·rw [if_neg (by simp [h]), e]
 ·rw [if_pos (by simp [h])]
  apply ba_ext
  rw [ext_list, e, ix_app (Sv.txtL_ne47 _)]
  simp
  rfl
theorem botS_rtxt (q : Rat) : botS (Sv.rtxt q) = Sv.txt q.den := by
 unfold botS
 rw [hasS_rtxt]
 rcases rtxt_cases q with ⟨h, e⟩ | ⟨h, e⟩
 ·rw [if_neg (by simp [h]), h]; exact txt1.symm
 ·rw [if_pos (by simp [h])]
  apply ba_ext
  rw [ext_list, ← sz_list, e, ix_app (Sv.txtL_ne47 _)]
  simp only [List.length_append, List.length_cons]
  rw [List.drop_append, List.drop_of_length_le (by omega), show (Sv.txtL q.num).length + 1 - (Sv.txtL q.num).length = 1 by omega]
  simp only [List.nil_append, List.drop_succ_cons, List.drop_zero]
  rw [List.take_of_length_le (by omega)]
  rfl
theorem rcano_iff {s : ByteArray} : Sv.RCano s ↔ Sv.Cano (topS s) ∧ (hasS s = true → Sv.Cano (botS s) ∧ 1 < Sv.val (botS s) ∧ Int.gcd (Sv.val (topS s)) (Sv.val (botS s)) = 1) := by
 constructor
 ·rintro ⟨q, rfl⟩
  rw [topS_rtxt, botS_rtxt, hasS_rtxt, Sv.val_txt, Sv.val_txt]
  refine ⟨⟨_, rfl⟩, fun h => ⟨⟨_, rfl⟩, ?_, ?_⟩⟩
  ·have h1 : q.den ≠ 1 := by simpa using h
   have := q.den_nz
   omega
  ·exact q.reduced
 ·rintro ⟨⟨n, hn⟩, hb⟩
  by_cases h : hasS s = true
  ·obtain ⟨⟨d, hd⟩, h1, h2⟩ := hb h
   rw [hd, hn, Sv.val_txt, Sv.val_txt] at h2
   rw [hd, Sv.val_txt] at h1
   obtain ⟨d', rfl⟩ := Int.eq_ofNat_of_zero_le (show 0 ≤ d by omega)
   refine ⟨⟨n, d', by omega, h2⟩, ?_⟩
   apply ba_ext
   rw [Sv.rtxt_toList]
   simp only
   rw [if_neg (by omega)]
   unfold topS at hn
   unfold botS at hd
   rw [if_pos h] at hn hd
   have hlt := hasS_iff.1 h
   rw [← sz_list] at hlt
   have e1 := congrArg (fun x : ByteArray => x.data.toList) hn
   have e2 := congrArg (fun x : ByteArray => x.data.toList) hd
   simp only [ext_list] at e1 e2
   rw [List.drop_zero, Nat.sub_zero] at e1
   rw [List.take_of_length_le (by rw [List.length_drop, sz_list]; omega)] at e2
   have := ix_split hlt
   rw [e1, e2] at this
   exact this
  ·unfold topS at hn
   rw [if_neg h] at hn
   refine ⟨(n : Rat), ?_⟩
   rw [hn]
   unfold Sv.rtxt
   rw [if_pos (Rat.den_intCast n), Rat.num_intCast]
noncomputable def rcanoB (s : ByteArray) : Bool := @decide (Sv.RCano s) (Classical.propDecidable _)
theorem rcanoB_iff {s : ByteArray} : rcanoB s = true ↔ Sv.RCano s := by unfold rcanoB; exact @decide_eq_true_iff _ (Classical.propDecidable _)
theorem rcanoB_eq {s : ByteArray} {b : Bool} (h : b = true ↔ Sv.RCano s) : rcanoB s = b := by
 rw [Bool.eq_iff_iff, rcanoB_iff]; exact h.symm
def ndR (q : Rat) : Nat := max (Sv.nd q.num) (Sv.nd q.den)
noncomputable def chkR (s : ByteArray) : Int := if rcanoB s = true then (if (max (Sv.nd (Sv.val (topS s))) (Sv.nd (Sv.val (botS s))) : Int) > 4096 then 10 else 0) else 3
theorem chkR_rtxt (q : Rat) : chkR (Sv.rtxt q) = if (ndR q : Int) > 4096 then 10 else 0 := by
 unfold chkR ndR
 rw [if_pos (rcanoB_iff.2 ⟨q, rfl⟩), topS_rtxt, botS_rtxt, Sv.val_txt, Sv.val_txt]
 have : ((max (Sv.nd q.num) (Sv.nd q.den) : Nat) : Int) = max (Sv.nd q.num : Int) (Sv.nd q.den : Int) := by omega
 rw [this]
theorem chkR_small {q : Rat} (h : ndR q ≤ 4096) : chkR (Sv.rtxt q) = 0 := by rw [chkR_rtxt, if_neg (by omega)]
theorem of_chkR {s : ByteArray} (h : chkR s = 0) : ∃ q, s = Sv.rtxt q ∧ ndR q ≤ 4096 := by
 by_cases hc : rcanoB s = true
 ·obtain ⟨q, rfl⟩ := rcanoB_iff.1 hc
  refine ⟨q, rfl, ?_⟩
  rw [chkR_rtxt] at h
  by_cases h2 : (ndR q : Int) > 4096
  ·rw [if_pos h2] at h; cases h
  ·omega
 ·unfold chkR at h
  rw [if_neg hc] at h; cases h
theorem top_size (s : ByteArray) : (topS s).size ≤ s.size := by
 unfold topS
 split
 ·rename_i h
  have := hasS_iff.1 h
  rw [← sz_list, ext_list, List.length_take, List.length_drop, sz_list]
  omega
 ·exact Nat.le_refl _
theorem bot_size (s : ByteArray) : (botS s).size ≤ s.size + 1 := by
 unfold botS
 split
 ·rw [← sz_list, ext_list, List.length_take, List.length_drop, sz_list]
  omega
 ·show 1 ≤ s.size + 1; omega
theorem chk_cases (s : ByteArray) : (canoB s = true ∧ (chkI s = 0 ∨ chkI s = 10)) ∨ (canoB s = false ∧ chkI s = 3) := by
 unfold chkI
 cases h : canoB s
 ·right; simp
 ·left; refine ⟨rfl, ?_⟩; simp only [if_true]; split <;> simp
theorem ref_formed (s : ByteArray) (hs : s.size ≤ 10000000000) : Ev (fun k => rFformed.f k s) (rcanoB s) := by
 unfold rFformed.f
 have t1 := top_size s
 have t2 := bot_size s
 refine Ev.bind (ref_Top s (by omega)) (Ev.bind (ref_Check _ (by omega)) ?_)
 have j1 : ∀ b : Bool, b = (!canoB (topS s)) → Ev (fun k => rFformed.j0 k s b) (rcanoB s) := by
  intro b hb
  refine Ev.succ ?_
  simp only [rFformed.j0]
  cases hc : canoB (topS s)
  ·rw [hc] at hb
   subst hb
   refine Ev.pos rfl (Ev.of ?_)
   congr 1; symm; apply rcanoB_eq
   rw [rcano_iff, ← canoB_iff, hc]
   simp
  ·rw [hc] at hb
   subst hb
   refine Ev.neg (by simp) (Ev.bind (ref_slash s (by omega)) ?_)
   by_cases h : hasS s = true
   ·rw [if_pos h]
    refine Ev.neg (by omega) (Ev.bind (ref_Bottom s (by omega)) (Ev.bind (ref_Check _ (by omega)) ?_))
    have j2 : ∀ b : Bool, b = (!canoB (botS s)) → Ev (fun k => rFformed.j1 k s (botS s) b) (rcanoB s) := by
     intro b hb
     refine Ev.succ ?_
     simp only [rFformed.j1]
     cases hc2 : canoB (botS s)
     ·rw [hc2] at hb
      subst hb
      refine Ev.pos rfl (Ev.of ?_)
      congr 1; symm; apply rcanoB_eq
      rw [rcano_iff, ← canoB_iff, hc, ← canoB_iff, hc2, h]
      simp
     ·rw [hc2] at hb
      subst hb
      obtain ⟨n, hn⟩ := canoB_iff.1 hc
      obtain ⟨d, hd⟩ := canoB_iff.1 hc2
      have hs1 := nd_size n
      have hs2 := nd_size d
      rw [← hn] at hs1
      rw [← hd] at hs2
      refine Ev.neg (by simp) ?_
      rw [hd, ← txt1]
      refine Ev.bind (ref_Order d 1 (by omega) (by have := nd1; omega)) ?_
      by_cases h1 : 1 < d
      ·refine Ev.pos (Int.sign_pos_iff.2 (by omega)) (Ev.bind (ref_Top s (by omega)) ?_)
       rw [hn]
       refine Ev.bind (ref_Common n d (by omega) (by omega)) (Ev.of ?_)
       congr 1; symm; apply rcanoB_eq
       rw [rcano_iff, hn, hd, Sv.val_txt, Sv.val_txt, beq_iff_eq, toList_iff]
       constructor
       ·intro e
        refine ⟨⟨n, rfl⟩, fun _ => ⟨⟨d, rfl⟩, h1, ?_⟩⟩
        have : Sv.txt (Int.gcd n d : Int) = Sv.txt 1 := ba_ext (by rw [e, txt1])
        have := Sv.txt_inj.1 this
        omega
       ·intro e
        rw [(e.2 h).2.2]
        show (Sv.txt 1).data.toList = _
        rw [txt1]
      ·refine Ev.neg (fun e => h1 (by have := Int.sign_pos_iff.1 e; omega)) (Ev.of ?_)
       congr 1; symm; apply rcanoB_eq
       rw [rcano_iff, hn, hd, Sv.val_txt, Sv.val_txt]
       refine ⟨fun h => by simp at h, fun e => absurd (e.2 h).2.1 h1⟩
    rcases chk_cases (botS s) with ⟨c1, c2 | c2⟩ | ⟨c1, c2⟩
    ·exact Ev.pos c2 (j2 _ (by rw [c1]; rfl))
    ·exact Ev.neg (by rw [c2]; decide) (j2 _ (by rw [c1, c2]; rfl))
    ·exact Ev.neg (by rw [c2]; decide) (j2 _ (by rw [c1, c2]; rfl))
   ·rw [if_neg h]
    refine Ev.pos (by omega) (Ev.of ?_)
    congr 1; symm; apply rcanoB_eq
    rw [rcano_iff, ← canoB_iff, hc]
    simp [h]
 rcases chk_cases (topS s) with ⟨c1, c2 | c2⟩ | ⟨c1, c2⟩
 ·exact Ev.pos c2 (j1 _ (by rw [c1]; rfl))
 ·exact Ev.neg (by rw [c2]; decide) (j1 _ (by rw [c1, c2]; rfl))
 ·exact Ev.neg (by rw [c2]; decide) (j1 _ (by rw [c1, c2]; rfl))
theorem mx_max (a b : Int) : mx a b = max a b := by unfold mx; split <;> omega
theorem ref_RDigits (q : Rat) (hq : ndR q ≤ 1000000000000) (hs : (Sv.rtxt q).size ≤ 1000000000000000000) : Ev (fun k => rFDigits.f k (Sv.rtxt q)) (ndR q : Int) := by
 unfold rFDigits.f
 unfold ndR at hq
 refine Ev.bind (ref_Top _ hs) ?_
 rw [topS_rtxt]
 refine Ev.bs (ref_Digits q.num (by omega)) (Ev.bind (ref_Bottom _ hs) ?_)
 rw [botS_rtxt]
 refine Ev.bs (ref_Digits q.den (by omega)) (Ev.of ?_)
 rw [mx_max]
 unfold ndR
 congr 1
 omega
theorem ndR_size (q : Rat) : ndR q ≤ (Sv.rtxt q).size + 1 := by
 have h1 := top_size (Sv.rtxt q)
 have h2 := bot_size (Sv.rtxt q)
 rw [topS_rtxt] at h1
 rw [botS_rtxt] at h2
 have h3 := nd_size q.num
 have h4 := nd_size (q.den : Int)
 unfold ndR
 omega
theorem ref_RCheck (s : ByteArray) (hs : s.size ≤ 10000000000) : Ev (fun k => rFCheck.f k s) (chkR s) := by
 unfold rFCheck.f
 refine Ev.bind (ref_formed s hs) ?_
 by_cases h : rcanoB s = true
 ·refine Ev.pos h ?_
  obtain ⟨q, rfl⟩ := rcanoB_iff.1 h
  have := ndR_size q
  rw [chkR_rtxt]
  refine Ev.bind (ref_RDigits q (by omega) (by omega)) ?_
  split <;> exact Ev.of rfl
 ·refine Ev.neg h (Ev.of ?_)
  unfold chkR
  rw [if_neg h]
set_option linter.unusedVariables false
set_option linter.unusedSimpArgs false
theorem rat_digits (n : Int) (h : Sv.nd n ≤ 100000000000000000) : rAdigits.f (Sv.txt n) = some (Sv.nd n : Int) := by
 unfold rAdigits.f
 rw [trimP_txt n h, Option.bind_some, size_abs]
theorem rat_canonical (s : ByteArray) (hs : s.size ≤ 100000000000000000) : rAcanonical.f s = some (canoB s) := by
 unfold rAcanonical.f
 rw [bi_Check s hs, Option.bind_some]
 congr 1
 rcases chk_cases s with ⟨c1, c2 | c2⟩ | ⟨c1, c2⟩ <;> rw [c1, c2] <;> rfl
theorem rat_common (n d : Int) (hn : Sv.nd n ≤ 4096) (hd : Sv.nd d ≤ 4096) : Ev (fun k => rAcommon.f k (Sv.txt n) (Sv.txt d)) (!decide (Int.gcd n d = 1)) := by
 unfold rAcommon.f
 refine Ev.bs (rat_digits n (by omega)) (Ev.pos (by omega) (Ev.bs (rat_digits d (by omega)) ?_))
 rw [decide_eq_true (show (Sv.nd d : Int) ≤ 4096 by omega)]
 refine Ev.succ ?_
 simp only [rAcommon.j0]
 refine Ev.pos trivial (Ev.bind (bi_Gcd n d hn hd) (Ev.pos rfl (Ev.of ?_)))
 congr 1
 show ((Sv.txt (Int.gcd n d : Int)).toList != [49]) = _
 rw [Bool.eq_iff_iff, bne_iff_ne, Bool.not_eq_true', decide_eq_false_iff_not, ne_eq, toList_iff]
 constructor
 ·intro h e; rw [e] at h; exact h (by rw [show ((1 : Nat) : Int) = 1 from rfl, txt1])
 ·intro h e
  have : Sv.txt (Int.gcd n d : Int) = Sv.txt 1 := ba_ext (by rw [e, txt1])
  have := Sv.txt_inj.1 this
  omega
theorem rat_j1 (n d : Int) (hn : Sv.nd n ≤ 100000000000000000) (hd : Sv.nd d ≤ 100000000000000000) : Ev (fun k => rACheck.j1 k (Sv.txt n) (Sv.txt d) false) (if (max (Sv.nd n) (Sv.nd d) : Int) > 4096 then 10 else 0) := by
 refine Ev.succ ?_
 simp only [rACheck.j1]
 refine Ev.neg (by simp) (Ev.bs (rat_digits n hn) ?_)
 by_cases h1 : (Sv.nd n : Int) > 4096
 ·refine Ev.pos h1 (Ev.of ?_)
  rw [if_pos (by omega)]
 ·refine Ev.neg h1 (Ev.bs (rat_digits d hd) ?_)
  by_cases h2 : (Sv.nd d : Int) > 4096
  ·refine Ev.pos h2 (Ev.of ?_)
   rw [if_pos (by omega)]
  ·refine Ev.neg h2 (Ev.of ?_)
   rw [if_neg (by omega)]
theorem rat_j1t (a b : ByteArray) : Ev (fun k => rACheck.j1 k a b true) 3 := by
 refine Ev.succ ?_
 simp only [rACheck.j1, if_true]
 exact Ev.of rfl
theorem txt_bt0 (n : Int) : (bt (Sv.txt n) 0 = 45) ↔ n < 0 := bt_txt0 n
theorem txt_eq1 (n : Int) : (Sv.txt n).toList = ([49] : List UInt8) ↔ n = 1 := by
 rw [toList_iff]
 constructor
 ·intro h; exact Sv.txt_inj.1 (ba_ext (by rw [h, txt1]))
 ·rintro rfl; rw [txt1]
theorem rat_Check' (s : ByteArray) (hs : s.size ≤ 10000000000) (hc : ∀ n d : Int, topS s = Sv.txt n → botS s = Sv.txt d → hasS s = true → ∃ b, Ev (fun k => rAcommon.f k (Sv.txt n) (Sv.txt d)) b ∧ (1 < d → (b = true ↔ Int.gcd n d ≠ 1))) : Ev (fun k => rACheck.f k s) (chkR s) := by
 unfold rACheck.f
 have t1 := top_size s
 have t2 := bot_size s
 refine Ev.bs (rat_split s (by omega)) (Ev.bs (rat_canonical _ (show (topS s).size ≤ _ by omega)) ?_)
 have key : ∀ b : Bool, b = (!(canoB (topS s) && canoB (botS s))) → Ev (fun k => rACheck.j0 k s (topS s) (botS s) b) (chkR s) := by
  intro b hb
  refine Ev.succ ?_
  simp only [rACheck.j0]
  have bad : rcanoB s = false → chkR s = 3 := fun h => by unfold chkR; rw [if_neg (by rw [h]; simp)]
  by_cases h1 : canoB (topS s) = true
  ·by_cases h2 : canoB (botS s) = true
   ·obtain ⟨n, hn⟩ := canoB_iff.1 h1
    obtain ⟨d, hd⟩ := canoB_iff.1 h2
    have hs1 := nd_size n
    have hs2 := nd_size d
    rw [← hn] at hs1
    rw [← hd] at hs2
    rw [hb, h1, h2]
    have good : rcanoB s = true → chkR s = (if (max (Sv.nd n) (Sv.nd d) : Int) > 4096 then 10 else 0) := fun h => by
     unfold chkR; rw [if_pos h, hn, hd, Sv.val_txt, Sv.val_txt]
    refine Ev.neg (by simp) (Ev.bs (rat_contains s) ?_)
    by_cases h : hasS s = true
    ·refine Ev.pos h ?_
     obtain ⟨b, hb1, hb2⟩ := hc n d hn hd h
     have rc : rcanoB s = true ↔ 1 < d ∧ Int.gcd n d = 1 := by
      rw [rcanoB_iff, rcano_iff, hn, hd, Sv.val_txt, Sv.val_txt]
      exact ⟨fun e => (e.2 h).2, fun e => ⟨⟨n, rfl⟩, fun _ => ⟨⟨d, rfl⟩, e⟩⟩⟩
     have nrc : ¬ (1 < d ∧ Int.gcd n d = 1) → rcanoB s = false := fun e => by
      cases hq : rcanoB s
      ·rfl
      ·exact absurd (rc.1 hq) e
     rw [hn, hd]
     by_cases d0 : d = 0
     ·refine Ev.pos ((txt_eq0 d).2 d0) ((rat_j1t _ _).eq ?_)
      rw [bad (nrc (by omega))]
     ·refine Ev.neg (fun e => d0 ((txt_eq0 d).1 e)) ?_
      by_cases d1 : d = 1
      ·refine Ev.pos ((txt_eq1 d).2 d1) ((rat_j1t _ _).eq ?_)
       rw [bad (nrc (by omega))]
      ·refine Ev.neg (fun e => d1 ((txt_eq1 d).1 e)) (Ev.pos (by have := txt_size_pos d; omega) ?_)
       by_cases dn : d < 0
       ·refine Ev.pos ((txt_bt0 d).2 dn) ((rat_j1t _ _).eq ?_)
        rw [bad (nrc (by omega))]
       ·refine Ev.neg (fun e => dn ((txt_bt0 d).1 e)) (Ev.bind hb1 ?_)
        have hb3 := hb2 (by omega)
        cases hbb : b
        ·have hg : Int.gcd n d = 1 := by
          have := mt hb3.2 (by rw [hbb]; simp)
          simpa using this
         rw [good (rc.2 ⟨by omega, hg⟩)]
         exact rat_j1 n d (by omega) (by omega)
        ·have hg := hb3.1 hbb
         refine (rat_j1t _ _).eq ?_
         rw [bad (nrc (fun e => hg e.2))]
    ·refine Ev.neg h ?_
     have rc : rcanoB s = true := by rw [rcanoB_iff, rcano_iff, hn]; exact ⟨⟨n, rfl⟩, fun e => absurd e h⟩
     rw [good rc, hn, hd]
     exact rat_j1 n d (by omega) (by omega)
   ·have hf : canoB (botS s) = false := by simpa using h2
    rw [hb, h1, hf]
    refine Ev.pos rfl (Ev.of ?_)
    rw [bad]
    by_cases h : hasS s = true
    ·cases hq : rcanoB s
     ·rfl
     ·have := ((rcano_iff.1 (rcanoB_iff.1 hq)).2 h).1
      rw [← canoB_iff, hf] at this; cases this
    ·exfalso
     apply h2
     unfold botS
     rw [if_neg h, ← txt1]; exact canoB_txt 1
  ·have hf : canoB (topS s) = false := by simpa using h1
   rw [hb, hf]
   refine Ev.pos rfl (Ev.of ?_)
   rw [bad]
   cases hq : rcanoB s
   ·rfl
   ·have := (rcano_iff.1 (rcanoB_iff.1 hq)).1
    rw [← canoB_iff, hf] at this; cases this
 by_cases h1 : canoB (topS s) = true
 ·refine Ev.pos h1 (Ev.bs (rat_canonical _ (show (botS s).size ≤ _ by omega)) (key _ ?_))
  rw [h1]; rfl
 ·refine Ev.neg h1 (key _ ?_)
  rw [show canoB (topS s) = false by simpa using h1]; rfl
theorem rat_Check (s : ByteArray) (hs : s.size ≤ 4090) : Ev (fun k => rACheck.f k s) (chkR s) := by
 refine rat_Check' s (by omega) fun n d hn hd h => ?_
 have t1 := top_size s
 have t2 := bot_size s
 have h1 := nd_size n
 have h2 := nd_size d
 rw [← hn] at h1
 rw [← hd] at h2
 refine ⟨_, rat_common n d (by omega) (by omega), fun _ => ?_⟩
 simp
theorem rtxt_size (q : Rat) : (Sv.rtxt q).size ≤ 2 * ndR q + 2 := by
 rcases rtxt_cases q with ⟨h, e⟩ | ⟨h, e⟩
 ·rw [e, Sv.txt_size]
  unfold ndR
  split <;> omega
 ·rw [← sz_list, e, List.length_append, List.length_cons, txtL_len, txtL_len, Sv.txt_size, Sv.txt_size]
  unfold ndR
  split <;> split <;> omega
theorem rat_CheckQ (q : Rat) (h : ndR q ≤ 4096) : Ev (fun k => rACheck.f k (Sv.rtxt q)) 0 := by
 have hs := rtxt_size q
 refine (rat_Check' _ (by omega) fun n d hn hd _ => ?_).eq (chkR_small h)
 rw [topS_rtxt] at hn
 rw [botS_rtxt] at hd
 have e1 := Sv.txt_inj.1 hn
 have e2 := Sv.txt_inj.1 hd
 unfold ndR at h
 refine ⟨_, rat_common n d (by rw [← e1]; omega) (by rw [← e2]; omega), fun _ => ?_⟩
 simp
theorem ref_CheckQ (q : Rat) (h : ndR q ≤ 4096) : Ev (fun k => rFCheck.f k (Sv.rtxt q)) 0 := by
 have hs := rtxt_size q
 exact (ref_RCheck _ (by omega)).eq (chkR_small h)
theorem rtxt_divInt (m n : Int) (hn : n ≠ 0) : Sv.rtxt (Rat.divInt m n) = if ((n.natAbs / n.gcd m : Nat) : Int) = 1 then Sv.txt (n.sign * m / n.gcd m) else Sv.txt (n.sign * m / n.gcd m) ++ ⟨#[47]⟩ ++ Sv.txt ((n.natAbs / n.gcd m : Nat) : Int) := by
 unfold Sv.rtxt
 rw [Rat.num_divInt, Rat.den_divInt, if_neg hn]
 by_cases h : n.natAbs / n.gcd m = 1
 ·rw [if_pos h, if_pos (by omega)]
 ·rw [if_neg h, if_neg (by omega)]
theorem gcd_pos {m n : Int} (hn : n ≠ 0) : 0 < Int.gcd n m := by
 rcases Nat.eq_zero_or_pos (Int.gcd n m) with h | h
 ·exact absurd (Int.gcd_eq_zero_iff.1 h).1 hn
 ·exact h
theorem fdiv_pos (m : Int) {g : Nat} : m.fdiv (g : Int) = m / (g : Int) := Int.fdiv_eq_ediv_of_nonneg m (by omega)
theorem join_text (p q : Int) (hp : Sv.nd p ≤ 1000000000000) (hq : Sv.nd q ≤ 1000000000000) : (Sv.txt p).size + 1 ≤ 9223372036854775807 ∧ (Sv.txt p ++ (⟨#[47]⟩ : ByteArray)).size + (Sv.txt q).size ≤ 9223372036854775807 := by
 have h1 := Sv.txt_size p
 have h2 := Sv.txt_size q
 have h3 : (Sv.txt p ++ (⟨#[47]⟩ : ByteArray)).size = (Sv.txt p).size + 1 := by rw [ByteArray.size_append]; rfl
 rw [h3]
 split at h1 <;> split at h2 <;> omega
theorem whole_j0 (m n : Int) (g : Int) (hn : n ≠ 0) (hm : Sv.nd m ≤ 4096) (hnd : Sv.nd n ≤ 4096) (hg0 : g ≠ 0) (hg : Sv.nd g ≤ 4096) (e1 : m.fdiv g = n.sign * m / (n.gcd m : Int)) (e2 : n.fdiv g = ((n.natAbs / n.gcd m : Nat) : Int)) : Ev (fun k => rAwhole.j0 k (Sv.txt m) (Sv.txt n) (Sv.txt g)) (Sv.rtxt (Rat.divInt m n), 0) := by
 refine Ev.succ ?_
 simp only [rAwhole.j0]
 have d1 := nd_fdiv m g hg0
 have d2 := nd_fdiv n g hg0
 refine Ev.bind (bi_Quo m g hg0 hm hg) (Ev.pos rfl (Ev.bind (bi_Quo n g hg0 hnd hg) (Ev.pos rfl ?_)))
 have j := join_text (m.fdiv g) (n.fdiv g) (by omega) (by omega)
 rw [rtxt_divInt m n hn, ← e1, ← e2]
 dsimp only
 by_cases h : n.fdiv g = 1
 ·rw [if_pos h]
  exact Ev.pos ((txt_eq1 _).2 h) (Ev.of rfl)
 ·rw [if_neg h]
  exact Ev.neg (fun e => h ((txt_eq1 _).1 e)) (Ev.pos j.1 (Ev.pos j.2 (Ev.of rfl)))
theorem rat_whole (m n : Int) (hn : n ≠ 0) (hm : Sv.nd m ≤ 4096) (hnd : Sv.nd n ≤ 4096) : Ev (fun k => rAwhole.f k (Sv.txt m) (Sv.txt n)) (Sv.rtxt (Rat.divInt m n), 0) := by
 unfold rAwhole.f
 have hg : 0 < Int.gcd m n := by rw [Int.gcd_comm]; exact gcd_pos (by omega)
 have hgl : Sv.nd (Int.gcd m n : Int) ≤ 4096 := by
  refine Nat.le_trans (nd_mono ?_) hnd
  rw [Int.natAbs_natCast]
  exact Nat.gcd_le_right _ (by omega)
 have dn : (n.natAbs : Int) / (Int.gcd m n : Int) = ((n.natAbs / Int.gcd m n : Nat) : Int) := (Int.natCast_ediv _ _).symm
 refine Ev.bind (bi_Gcd m n hm hnd) (Ev.pos rfl (Ev.bind (bi_Sign n hnd) ?_))
 dsimp only
 by_cases h : n < 0
 ·refine Ev.pos (Int.sign_neg_iff.2 h) (Ev.bind (bi_Neg _ hgl) ?_)
  refine whole_j0 m n (-(Int.gcd m n : Int)) hn hm hnd (by omega) (by rw [Sv.nd_neg]; exact hgl) ?_ ?_
  ·rw [Int.gcd_comm n m, Int.sign_eq_neg_one_of_neg h, ← Int.neg_eq_neg_one_mul, ← Int.neg_fdiv_neg, Int.neg_neg, fdiv_pos]
  ·rw [Int.gcd_comm n m, ← Int.neg_fdiv_neg, Int.neg_neg, fdiv_pos, ← dn, show ((n.natAbs : Nat) : Int) = -n by omega]
 ·refine Ev.neg (fun e => h (Int.sign_neg_iff.1 e)) ?_
  refine whole_j0 m n (Int.gcd m n : Int) hn hm hnd (by omega) hgl ?_ ?_
  ·rw [Int.gcd_comm n m, Int.sign_eq_one_of_pos (by omega), Int.one_mul, fdiv_pos]
  ·rw [Int.gcd_comm n m, fdiv_pos, ← dn, show ((n.natAbs : Nat) : Int) = n by omega]
set_option linter.unusedVariables false
set_option linter.unusedSimpArgs false
structure Okt (s : ByteArray) : Prop where
 size : s.size ≤ 10000
 small : s.size ≤ 4090 ∨ (∃ q, s = Sv.rtxt q ∧ ndR q ≤ 4096) ∨ Ev (fun k => rACheck.f k s) (chkR s)
theorem Okt.of {s : ByteArray} (h : s.size ≤ 4090) : Okt s := ⟨by omega, .inl h⟩
theorem Okt.q {q : Rat} (h : ndR q ≤ 4096) : Okt (Sv.rtxt q) := ⟨by have := rtxt_size q; omega, .inr (.inl ⟨q, rfl, h⟩)⟩
theorem Okt.rat {s : ByteArray} (h : Okt s) : Ev (fun k => rACheck.f k s) (chkR s) := by
 rcases h.small with h | ⟨q, rfl, hq⟩ | h
 ·exact rat_Check s h
 ·exact (rat_CheckQ q hq).eq (chkR_small hq).symm
 ·exact h
section one
variable {s : ByteArray} (hs : Okt s)
include hs
theorem rat_Num : Ev (fun k => rANum.f k s) (if chkR s = 0 then (topS s, 0) else (⟨#[]⟩, chkR s)) := by
 unfold rANum.f
 refine Ev.bind hs.rat ?_
 by_cases h : chkR s = 0
 ·refine Ev.pos h ?_
  rw [if_pos h]
  exact Ev.bs (rat_split s (by have := hs.size; omega)) (Ev.of rfl)
 ·refine Ev.neg h ?_
  rw [if_neg h]
  exact Ev.of rfl
theorem rat_Den : Ev (fun k => rADen.f k s) (if chkR s = 0 then (botS s, 0) else (⟨#[]⟩, chkR s)) := by
 unfold rADen.f
 refine Ev.bind hs.rat ?_
 by_cases h : chkR s = 0
 ·refine Ev.pos h ?_
  rw [if_pos h]
  exact Ev.bs (rat_split s (by have := hs.size; omega)) (Ev.of rfl)
 ·refine Ev.neg h ?_
  rw [if_neg h]
  exact Ev.of rfl
end one
theorem txt_negL {n : Int} (h : 0 < n) : Sv.txtL (-n) = 45 :: Sv.txtL n := by
 unfold Sv.txtL
 rw [if_pos (by omega), if_neg (by omega), Int.natAbs_neg]
theorem rtxt_neg {q : Rat} (h : 0 < q.num) : Sv.rtxt (-q) = ⟨#[45]⟩ ++ Sv.rtxt q := by
 apply ba_ext
 rw [ba_append_toList, Sv.rtxt_toList, Sv.rtxt_toList, Rat.neg_num, Rat.neg_den, txt_negL h]
 split <;> rfl
theorem rtxt_neg' {q : Rat} (h : q.num < 0) : Sv.rtxt q = ⟨#[45]⟩ ++ Sv.rtxt (-q) := by
 have := rtxt_neg (q := -q) (by rw [Rat.neg_num]; omega)
 rw [Rat.neg_neg] at this
 exact this
theorem rtxt_head (q : Rat) : 0 < (Sv.rtxt q).size ∧ (bt (Sv.rtxt q) 0 = 45 ↔ q.num < 0) := by
 by_cases h : q.num < 0
 ·rw [rtxt_neg' h]
  refine ⟨?_, fun _ => h, fun _ => ?_⟩
  ·rw [ByteArray.size_append]; show 0 < 1 + _; omega
  ·have := bt_nat ((⟨#[45]⟩ : ByteArray) ++ Sv.rtxt (-q)) 0 (by rw [ByteArray.size_append]; show 0 < 1 + _; omega)
   rw [show ((0 : Nat) : Int) = 0 from rfl] at this
   rw [this]
   simp only [ba_append_toList]
   rfl
 ·have hne : (Sv.rtxt q).data.toList.head? ≠ some 45 ∧ (Sv.rtxt q).data.toList ≠ [] := by
   rw [Sv.rtxt_toList]
   have h1 : (Sv.txtL q.num).head? ≠ some 45 := fun e => h ((head45 q.num).1 e)
   have h2 : Sv.txtL q.num ≠ [] := by
    intro e
    have := txt_size_pos q.num
    rw [← txtL_len, e] at this
    simp at this
   split
   ·exact ⟨h1, h2⟩
   ·cases hl : Sv.txtL q.num with
    | nil => exact absurd hl h2
    | cons c m => rw [hl] at h1; exact ⟨by simpa using h1, by simp⟩
  have hsz : 0 < (Sv.rtxt q).size := by rw [← sz_list]; exact List.length_pos_iff.2 hne.2
  refine ⟨hsz, fun e => ?_, fun e => absurd e h⟩
  exfalso
  have := bt_nat (Sv.rtxt q) 0 hsz
  rw [show ((0 : Nat) : Int) = 0 from rfl, e] at this
  have h3 : (Sv.rtxt q).data.toList[0]'(by rw [sz_list]; exact hsz) = 45 := by
   apply u8_45.1; exact this.symm
  apply hne.1
  rw [List.head?_eq_getElem?, List.getElem?_eq_getElem (by rw [sz_list]; exact hsz), h3]
theorem rtxt_eq0 (q : Rat) : (Sv.rtxt q).toList = ([48] : List UInt8) ↔ q = 0 := by
 rw [toList_iff]
 constructor
 ·intro h
  have : Sv.rtxt q = Sv.rtxt 0 := by
   apply ba_ext
   rw [h]; rfl
  exact Sv.rtxt_inj.1 this
 ·rintro rfl; rfl
theorem ndR_num {q : Rat} (h : ndR q ≤ 4096) : Sv.nd q.num ≤ 4096 := by unfold ndR at h; omega
theorem ndR_den {q : Rat} (h : ndR q ≤ 4096) : Sv.nd (q.den : Int) ≤ 4096 := by unfold ndR at h; omega
theorem den_ne (q : Rat) : (q.den : Int) ≠ 0 := by have := q.den_nz; omega
theorem ndR_neg (q : Rat) : ndR (-q) = ndR q := by unfold ndR; rw [Rat.neg_num, Rat.neg_den, Sv.nd_neg]
section two
variable {s t : ByteArray} (hs : Okt s) (ht : Okt t)
include hs ht
end two
theorem rat_pair (p q : Rat) (hp : ndR p ≤ 4096) (hq : ndR q ≤ 4096) : Ev (fun k => rAnewPair.f k (Sv.rtxt p) (Sv.rtxt q)) (Sv.txt p.num, Sv.txt p.den, Sv.txt q.num, Sv.txt q.den, 0) := by
 unfold rAnewPair.f
 have s1 := rtxt_size p
 have s2 := rtxt_size q
 refine Ev.bind (rat_CheckQ p hp) (Ev.pos rfl (Ev.bind (rat_CheckQ q hq) (Ev.pos rfl (Ev.bs (rat_split _ (by omega)) (Ev.bs (rat_split _ (by omega)) (Ev.of ?_))))))
 rw [topS_rtxt, botS_rtxt, topS_rtxt, botS_rtxt]
theorem rat_both (a b c d : Int) (ha : Sv.nd a ≤ 4096) (hb : Sv.nd b ≤ 4096) (hc : Sv.nd c ≤ 4096) (hd : Sv.nd d ≤ 4096) : Ev (fun k => rAboth.f k (Sv.txt a) (Sv.txt b) (Sv.txt c) (Sv.txt d)) (if Sv.nd (a * b) ≤ 4096 then (Sv.txt (a * b), (lim (c * d)).1, (lim (c * d)).2) else (⟨#[]⟩, ⟨#[]⟩, 10)) := by
 unfold rAboth.f
 have h1 := bi_Mul a b ha hb
 by_cases h : Sv.nd (a * b) ≤ 4096
 ·rw [lim_small h] at h1
  rw [if_pos h]
  exact Ev.bind h1 (Ev.pos rfl (Ev.bind (bi_Mul c d hc hd) (Ev.of rfl)))
 ·unfold lim at h1
  rw [if_neg h] at h1
  rw [if_neg h]
  exact Ev.bind h1 (Ev.neg (show ¬ ((10 : Int) = 0) by decide) (Ev.of rfl))
section tops
variable {p : Rat} (hp : ndR p ≤ 4096)
include hp
end tops
theorem add_divInt (p q : Rat) : Rat.divInt (p.num * q.den + q.num * p.den) (p.den * q.den) = p + q := by
 rw [Rat.add_def', show ((p.den : Int) * (q.den : Int)) = ((p.den * q.den : Nat) : Int) from (Int.natCast_mul _ _).symm, Rat.divInt_ofNat]
theorem mul_divInt (p q : Rat) : Rat.divInt (p.num * q.num) (p.den * q.den) = p * q := by
 rw [Rat.mul_def', show ((p.den : Int) * (q.den : Int)) = ((p.den * q.den : Nat) : Int) from (Int.natCast_mul _ _).symm, Rat.divInt_ofNat]
def addR (p q : Rat) : ByteArray × Int := if Sv.nd (p.num * q.den) ≤ 4096 ∧ Sv.nd (q.num * p.den) ≤ 4096 ∧ Sv.nd (p.num * q.den + q.num * p.den) ≤ 4096 ∧ Sv.nd ((p.den : Int) * q.den) ≤ 4096 then (Sv.rtxt (p + q), 0) else (⟨#[]⟩, 10)
def mulR (p q : Rat) : ByteArray × Int := if Sv.nd (p.num * q.num) ≤ 4096 ∧ Sv.nd ((p.den : Int) * q.den) ≤ 4096 then (Sv.rtxt (p * q), 0) else (⟨#[]⟩, 10)
theorem den_mul_ne (p q : Rat) : (p.den : Int) * (q.den : Int) ≠ 0 := Int.mul_ne_zero (den_ne p) (den_ne q)
theorem calc_fin {op : Nat → ByteArray → ByteArray → ByteArray → ByteArray → Option (ByteArray × ByteArray × Int)} (p q : Rat) (hp : ndR p ≤ 4096) (hq : ndR q ≤ 4096) (x : ByteArray × ByteArray × Int) (r : ByteArray × Int)
  (hop : Ev (fun k => op k (Sv.txt p.num) (Sv.txt p.den) (Sv.txt q.num) (Sv.txt q.den)) x) (h : (x.2.2 ≠ 0 ∧ r = (⟨#[]⟩, x.2.2)) ∨ (x.2.2 = 0 ∧ Ev (fun k => rAwhole.f k x.1 x.2.1) r)) : Ev (fun k => calcF (op k) k (Sv.rtxt p) (Sv.rtxt q)) r := by
 unfold calcF
 refine Ev.bind (rat_pair p q hp hq) (Ev.pos rfl (Ev.bind hop ?_))
 rcases h with ⟨h1, rfl⟩ | ⟨h1, h2⟩
 ·exact Ev.neg h1 (Ev.of rfl)
 ·exact Ev.pos h1 h2
theorem ten_ne : ¬ ((10 : Int) = 0) := by decide
theorem rat_Add (p q : Rat) (hp : ndR p ≤ 4096) (hq : ndR q ≤ 4096) : Ev (fun k => rAAdd.f k (Sv.rtxt p) (Sv.rtxt q)) (addR p q) := by
 unfold rAAdd.f rAcalculate.f addR
 refine Ev.bind (x := addR p q) (Ev.pos rfl ?_) (Ev.of rfl)
 have hb := rat_both p.num q.den q.num p.den (ndR_num hp) (ndR_den hq) (ndR_num hq) (ndR_den hp)
 have hm := bi_Mul p.den q.den (ndR_den hp) (ndR_den hq)
 unfold addR
 by_cases h1 : Sv.nd (p.num * q.den) ≤ 4096
 ·rw [if_pos h1] at hb
  by_cases h2 : Sv.nd (q.num * p.den) ≤ 4096
  ·rw [lim_small h2] at hb
   have ha := bi_Add _ _ h1 h2
   by_cases h3 : Sv.nd (p.num * q.den + q.num * p.den) ≤ 4096
   ·rw [lim_small h3] at ha
    by_cases h4 : Sv.nd ((p.den : Int) * q.den) ≤ 4096
    ·rw [lim_small h4] at hm
     rw [if_pos ⟨h1, h2, h3, h4⟩, ← add_divInt]
     refine calc_fin p q hp hq (Sv.txt _, Sv.txt _, 0) _ ?_ (.inr ⟨rfl, rat_whole _ _ (den_mul_ne p q) h3 h4⟩)
     unfold rAaddop.f
     exact Ev.bind hb (Ev.pos rfl (Ev.bind ha (Ev.pos rfl (Ev.bind hm (Ev.of rfl)))))
    ·unfold lim at hm
     rw [if_neg h4] at hm
     rw [if_neg (fun e => h4 e.2.2.2)]
     refine calc_fin p q hp hq (Sv.txt (p.num * q.den + q.num * p.den), ⟨#[]⟩, 10) _ ?_ (.inl ⟨ten_ne, rfl⟩)
     unfold rAaddop.f
     exact Ev.bind hb (Ev.pos rfl (Ev.bind ha (Ev.pos rfl (Ev.bind hm (Ev.of rfl)))))
   ·unfold lim at ha
    rw [if_neg h3] at ha
    rw [if_neg (fun e => h3 e.2.2.1)]
    refine calc_fin p q hp hq (⟨#[]⟩, ⟨#[]⟩, 10) _ ?_ (.inl ⟨ten_ne, rfl⟩)
    unfold rAaddop.f
    exact Ev.bind hb (Ev.pos rfl (Ev.bind ha (Ev.neg ten_ne (Ev.of rfl))))
  ·unfold lim at hb
   rw [if_neg h2] at hb
   rw [if_neg (fun e => h2 e.2.1)]
   refine calc_fin p q hp hq (⟨#[]⟩, ⟨#[]⟩, 10) _ ?_ (.inl ⟨ten_ne, rfl⟩)
   unfold rAaddop.f
   exact Ev.bind hb (Ev.neg ten_ne (Ev.of rfl))
 ·rw [if_neg h1] at hb
  rw [if_neg (fun e => h1 e.1)]
  refine calc_fin p q hp hq (⟨#[]⟩, ⟨#[]⟩, 10) _ ?_ (.inl ⟨ten_ne, rfl⟩)
  unfold rAaddop.f
  exact Ev.bind hb (Ev.neg ten_ne (Ev.of rfl))
theorem rat_Mul (p q : Rat) (hp : ndR p ≤ 4096) (hq : ndR q ≤ 4096) : Ev (fun k => rAMul.f k (Sv.rtxt p) (Sv.rtxt q)) (mulR p q) := by
 unfold rAMul.f rAcalculate.f
 refine Ev.bind (x := mulR p q) (Ev.neg (by decide) (Ev.neg (by decide) (Ev.pos rfl ?_))) (Ev.of rfl)
 have hb := rat_both p.num q.num p.den q.den (ndR_num hp) (ndR_num hq) (ndR_den hp) (ndR_den hq)
 unfold mulR
 by_cases h1 : Sv.nd (p.num * q.num) ≤ 4096
 ·rw [if_pos h1] at hb
  by_cases h2 : Sv.nd ((p.den : Int) * q.den) ≤ 4096
  ·rw [lim_small h2] at hb
   rw [if_pos ⟨h1, h2⟩, ← mul_divInt]
   refine calc_fin p q hp hq (Sv.txt _, Sv.txt _, 0) _ ?_ (.inr ⟨rfl, rat_whole _ _ (den_mul_ne p q) h1 h2⟩)
   unfold rAoperations_1.f
   exact Ev.bind hb (Ev.of rfl)
  ·unfold lim at hb
   rw [if_neg h2] at hb
   rw [if_neg (fun e => h2 e.2)]
   refine calc_fin p q hp hq (Sv.txt (p.num * q.num), ⟨#[]⟩, 10) _ ?_ (.inl ⟨ten_ne, rfl⟩)
   unfold rAoperations_1.f
   exact Ev.bind hb (Ev.of rfl)
 ·rw [if_neg h1] at hb
  rw [if_neg (fun e => h1 e.1)]
  refine calc_fin p q hp hq (⟨#[]⟩, ⟨#[]⟩, 10) _ ?_ (.inl ⟨ten_ne, rfl⟩)
  unfold rAoperations_1.f
  exact Ev.bind hb (Ev.of rfl)
set_option linter.unusedVariables false
set_option linter.unusedSimpArgs false
open Go.RowKit Go.Proofs.WWords Go.Proofs.WMore
theorem nd_add (m n : Int) : Sv.nd (m + n) ≤ max (Sv.nd m) (Sv.nd n) + 1 := by
 refine Sv.nd_le (by omega) ?_
 have h1 := natAbs_lt_nd m
 have h2 := natAbs_lt_nd n
 have h3 := Nat.pow_le_pow_right (n := 10) (by omega) (show Sv.nd m ≤ max (Sv.nd m) (Sv.nd n) by omega)
 have h4 := Nat.pow_le_pow_right (n := 10) (by omega) (show Sv.nd n ≤ max (Sv.nd m) (Sv.nd n) by omega)
 rw [Nat.pow_succ]
 omega
section any
variable {s t : ByteArray} (hs : Okt s) (ht : Okt t)
include hs ht
end any
section one2
variable {s : ByteArray} (hs : Okt s)
include hs
end one2
theorem rat_Of (m n : Int) (h0 : n ≠ 0) (hm : Sv.nd m ≤ 4096) (hn : Sv.nd n ≤ 4096) : Ev (fun k => rAOf.f k (Sv.txt m) (Sv.txt n)) (Sv.rtxt (Rat.divInt m n), 0) := by
 unfold rAOf.f
 have s1 := small_size hm
 have s2 := small_size hn
 exact Ev.bs (bi_Check _ (by omega)) (Ev.pos (chkI_small hm) (Ev.bs (bi_Check _ (by omega)) (Ev.pos (chkI_small hn) (Ev.neg (fun e => h0 ((txt_eq0 n).1 e)) (Ev.bind (rat_whole m n h0 hm hn) (Ev.of rfl))))))
set_option linter.unusedVariables false
set_option linter.unusedSimpArgs false
open Go.RowKit Go.Proofs.WWords Go.Proofs.WMore
theorem ndR_divInt (m n : Int) (hn : n ≠ 0) : ndR (Rat.divInt m n) ≤ max (Sv.nd m) (Sv.nd n) := by
 unfold ndR
 rw [Rat.num_divInt, Rat.den_divInt, if_neg hn]
 have h1 : Sv.nd (n.sign * m / (n.gcd m : Int)) ≤ Sv.nd m := by
  refine nd_mono ?_
  rw [Int.natAbs_ediv_of_dvd (Int.dvd_mul_of_dvd_right (Int.gcd_dvd_right ..)), Int.natAbs_mul, Int.natAbs_sign_of_ne_zero hn, Nat.one_mul]
  exact Nat.div_le_self _ _
 have h2 : Sv.nd ((n.natAbs / n.gcd m : Nat) : Int) ≤ Sv.nd n := by
  refine nd_mono ?_
  rw [Int.natAbs_natCast]
  exact Nat.div_le_self _ _
 omega
theorem ndR_nd (q : Rat) : Sv.nd q.num ≤ ndR q ∧ Sv.nd (q.den : Int) ≤ ndR q := by unfold ndR; omega
theorem ndR_add (p q : Rat) : ndR (p + q) ≤ ndR p + ndR q + 1 := by
 have h1 := ndR_nd p
 have h2 := ndR_nd q
 have h3 := ndR_divInt (p.num * q.den + q.num * p.den) (p.den * q.den) (den_mul_ne p q)
 have b1 := nd_mul p.num q.den
 have b2 := nd_mul q.num p.den
 have b3 := nd_mul p.den q.den
 have b4 := nd_add (p.num * q.den) (q.num * p.den)
 rw [add_divInt] at h3
 omega
theorem ndR_sub (p q : Rat) : ndR (p - q) ≤ ndR p + ndR q + 1 := by
 have := ndR_add p (-q)
 rw [ndR_neg, ← Rat.sub_eq_add_neg] at this
 exact this
theorem ndR_mul (p q : Rat) : ndR (p * q) ≤ ndR p + ndR q := by
 have h1 := ndR_nd p
 have h2 := ndR_nd q
 have h3 := ndR_divInt (p.num * q.num) (p.den * q.den) (den_mul_ne p q)
 have b1 := nd_mul p.num q.num
 have b3 := nd_mul p.den q.den
 rw [mul_divInt] at h3
 omega
section small
variable (p q : Rat) (h : ndR p + ndR q + 1 ≤ 4096)
include h
theorem addE : Ev (fun k => rAAdd.f k (Sv.rtxt p) (Sv.rtxt q)) (Sv.rtxt (p + q), 0) := by
 have h1 := ndR_nd p
 have h2 := ndR_nd q
 have b1 := nd_mul p.num q.den
 have b2 := nd_mul q.num p.den
 have b3 := nd_mul p.den q.den
 have b4 := nd_add (p.num * q.den) (q.num * p.den)
 exact (rat_Add p q (by omega) (by omega)).eq (if_pos ⟨by omega, by omega, by omega, by omega⟩)
theorem mulE : Ev (fun k => rAMul.f k (Sv.rtxt p) (Sv.rtxt q)) (Sv.rtxt (p * q), 0) := by
 have h1 := ndR_nd p
 have h2 := ndR_nd q
 have b1 := nd_mul p.num q.num
 have b3 := nd_mul p.den q.den
 exact (rat_Mul p q (by omega) (by omega)).eq (if_pos ⟨by omega, by omega⟩)
end small
theorem numE (q : Rat) (h : ndR q ≤ 4096) : Ev (fun k => rANum.f k (Sv.rtxt q)) (Sv.txt q.num, 0) := by
 refine (rat_Num (Okt.q h)).eq ?_
 rw [if_pos (chkR_small h), topS_rtxt]
theorem denE (q : Rat) (h : ndR q ≤ 4096) : Ev (fun k => rADen.f k (Sv.rtxt q)) (Sv.txt q.den, 0) := by
 refine (rat_Den (Okt.q h)).eq ?_
 rw [if_pos (chkR_small h), botS_rtxt]
theorem rtxt_int (n : Int) : Sv.rtxt (n : Rat) = Sv.txt n := by
 unfold Sv.rtxt
 rw [if_pos (Rat.den_intCast n), Rat.num_intCast]
theorem rt_lit (n : Int) (d : Nat) (h0 : d ≠ 0) (h1 : n.natAbs.Coprime d) (l : List UInt8) (h : (if d = 1 then Sv.txtL n else Sv.txtL n ++ 47 :: Sv.txtL d) = l) : Sv.rtxt (Rat.mk' n d h0 h1) = ⟨l.toArray⟩ := by
 apply ba_ext
 rw [Sv.rtxt_toList, ba_mk, ← h]
theorem nd_lt10 {n : Int} (h : n.natAbs < 10) : Sv.nd n ≤ 1 := Sv.nd_le (by omega) (by omega)
theorem ndR_lit (n : Int) (d : Nat) (h0 : d ≠ 0) (h1 : n.natAbs.Coprime d) (hn : n.natAbs < 10) (hd : d < 10) : ndR (Rat.mk' n d h0 h1) ≤ 1 := by
 unfold ndR
 have a := nd_lt10 hn
 have b := nd_lt10 (n := (d : Int)) (by omega)
 show max (Sv.nd n) (Sv.nd d) ≤ 1
 omega
def q12 : Rat := Rat.mk' 1 2 (by decide) (by decide)
def q13 : Rat := Rat.mk' 1 3 (by decide) (by decide)
def qm3 : Rat := Rat.mk' (-3) 1 (by decide) (by decide)
theorem r12 : Sv.rtxt q12 = ⟨#[49, 47, 50]⟩ := rt_lit 1 2 _ _ _ (by simp [Sv.txtL, Sv.txtN, Sv.dg, Sv.dch])
theorem r13 : Sv.rtxt q13 = ⟨#[49, 47, 51]⟩ := rt_lit 1 3 _ _ _ (by simp [Sv.txtL, Sv.txtN, Sv.dg, Sv.dch])
theorem rm3 : Sv.rtxt qm3 = ⟨#[45, 51]⟩ := rt_lit (-3) 1 _ _ _ (by simp [Sv.txtL, Sv.txtN, Sv.dg, Sv.dch])
theorem r0 : Sv.rtxt 0 = ⟨#[48]⟩ := rfl
theorem r1 : Sv.rtxt 1 = ⟨#[49]⟩ := by show Sv.txt 1 = _; exact txt1
theorem t2 : Sv.txt 2 = ⟨#[50]⟩ := by simp [Sv.txt, Sv.txtL, Sv.txtN, Sv.dg, Sv.dch]
theorem ba_list (l : List UInt8) (a : ByteArray) (h : a = ⟨l.toArray⟩) : a.toList = l := by rw [ByteArray.toList_eq, h, ba_mk]
theorem wz : wrap64 (0 + 0) = 0 := by unfold wrap64; omega
theorem Ev.ex {α : Type} {f : Nat → Option α} {x : α} (h : Ev f x) : ∃ k, f k = some x := by
 obtain ⟨n, hn⟩ := h
 exact ⟨n, hn n (Nat.le_refl _)⟩
set_option linter.unusedVariables false
set_option linter.unusedSimpArgs false
open Go.RowKit Go.Proofs.WWords Go.Proofs.WMore
noncomputable def rv (s : ByteArray) : Rat := @dite _ (Sv.RCano s) (Classical.propDecidable _) (fun h => Classical.choose h) (fun _ => 0)
theorem rv_rtxt (q : Rat) : rv (Sv.rtxt q) = q := by
 have h : Sv.RCano (Sv.rtxt q) := ⟨q, rfl⟩
 unfold rv
 rw [dif_pos h]
 exact (Sv.rtxt_inj.1 (Classical.choose_spec h)).symm
noncomputable def numC (s : ByteArray) : Int := if chkR s = 0 then (if ndR (rv s) ≤ 100 then 0 else 10) else chkR s
noncomputable def numsC : List ByteArray → Int
 | [] => 0
 | s :: l => if numC s = 0 then numsC l else numC s
noncomputable def chkL (l : List ByteArray) (c : ByteArray) : Int := if 32 < l.length then 5 else if numsC l = 0 then numC c else numsC l
theorem numC_rtxt (q : Rat) : numC (Sv.rtxt q) = if ndR q ≤ 100 then 0 else 10 := by
 unfold numC
 rw [chkR_rtxt, rv_rtxt]
 by_cases h : (ndR q : Int) > 4096
 · rw [if_pos h, if_neg (by decide), if_neg (by omega)]
 · rw [if_neg h, if_pos rfl]
theorem of_numC {s : ByteArray} (h : numC s = 0) : ∃ q, s = Sv.rtxt q ∧ ndR q ≤ 100 := by
 unfold numC at h
 by_cases h1 : chkR s = 0
 · rw [if_pos h1] at h
   obtain ⟨q, rfl, -⟩ := of_chkR h1
   rw [rv_rtxt] at h
   by_cases h2 : ndR q ≤ 100
   · exact ⟨q, rfl, h2⟩
   · rw [if_neg h2] at h; cases h
 · rw [if_neg h1] at h; exact absurd h h1
theorem of_numsC {l : List ByteArray} (h : numsC l = 0) : ∃ qs : List Rat, l = qs.map Sv.rtxt ∧ ∀ q ∈ qs, ndR q ≤ 100 := by
 induction l with
 | nil => exact ⟨[], rfl, fun _ h => by cases h⟩
 | cons s l ih =>
  unfold numsC at h
  by_cases h1 : numC s = 0
  · rw [if_pos h1] at h
    obtain ⟨q, rfl, hq⟩ := of_numC h1
    obtain ⟨qs, rfl, hs⟩ := ih h
    exact ⟨q :: qs, rfl, fun x hx => by rcases List.mem_cons.1 hx with rfl | hx <;> first | exact hq | exact hs x hx⟩
  · rw [if_neg h1] at h; exact absurd h h1
theorem numsC_map (qs : List Rat) : numsC (qs.map Sv.rtxt) = if ∀ q ∈ qs, ndR q ≤ 100 then 0 else 10 := by
 induction qs with
 | nil => rfl
 | cons q qs ih =>
  rw [List.map_cons]
  unfold numsC
  rw [numC_rtxt, ih]
  by_cases h1 : ndR q ≤ 100
  · rw [if_pos h1, if_pos rfl]
    by_cases h2 : ∀ q ∈ qs, ndR q ≤ 100
    · rw [if_pos h2, if_pos (fun x hx => by rcases List.mem_cons.1 hx with rfl | hx <;> first | exact h1 | exact h2 x hx)]
    · rw [if_neg h2, if_neg (fun h => h2 fun x hx => h x (List.mem_cons_of_mem _ hx))]
  · rw [if_neg h1, if_neg (by decide), if_neg (fun h => h1 (h q List.mem_cons_self))]
theorem of_chkL {l : List ByteArray} {c : ByteArray} (h : chkL l c = 0) : l.length ≤ 32 ∧ ∃ (qs : List Rat) (q : Rat), l = qs.map Sv.rtxt ∧ c = Sv.rtxt q ∧ (∀ q ∈ qs, ndR q ≤ 100) ∧ ndR q ≤ 100 := by
 unfold chkL at h
 by_cases h1 : 32 < l.length
 · rw [if_pos h1] at h; cases h
 · rw [if_neg h1] at h
   by_cases h2 : numsC l = 0
   · rw [if_pos h2] at h
     obtain ⟨qs, rfl, hs⟩ := of_numsC h2
     obtain ⟨q, rfl, hq⟩ := of_numC h
     exact ⟨by omega, qs, q, rfl, rfl, hs, hq⟩
   · rw [if_neg h2] at h; exact absurd h h2
def fine (qs : List Rat) (q : Rat) : Prop := qs.length ≤ 32 ∧ (∀ q ∈ qs, ndR q ≤ 100) ∧ ndR q ≤ 100
noncomputable def fin (qs : List Rat) (q : Rat) : List ByteArray × ByteArray × Int := @ite _ (fine qs q) (Classical.propDecidable _) (qs.map Sv.rtxt, Sv.rtxt q, 0) ([], ⟨#[]⟩, 10)
theorem chkL_map (qs : List Rat) (q : Rat) : chkL (qs.map Sv.rtxt) (Sv.rtxt q) = 0 ↔ fine qs q := by
 unfold chkL fine
 rw [List.length_map, numsC_map, numC_rtxt]
 by_cases h1 : 32 < qs.length
 · rw [if_pos h1]; exact ⟨fun h => (by cases h), fun h => by omega⟩
 · rw [if_neg h1]
   by_cases h2 : ∀ q ∈ qs, ndR q ≤ 100
   · rw [if_pos h2, if_pos rfl]
     by_cases h3 : ndR q ≤ 100
     · rw [if_pos h3]; exact ⟨fun _ => ⟨by omega, h2, h3⟩, fun _ => rfl⟩
     · rw [if_neg h3]; exact ⟨fun h => (by cases h), fun h => absurd h.2.2 h3⟩
   · rw [if_neg h2, if_neg (by decide)]; exact ⟨fun h => (by cases h), fun h => absurd h.2.1 h2⟩
theorem fin_pos {qs : List Rat} {q : Rat} (h : fine qs q) : fin qs q = (qs.map Sv.rtxt, Sv.rtxt q, 0) := if_pos h
theorem fin_neg {qs : List Rat} {q : Rat} (h : ¬ fine qs q) : fin qs q = ([], ⟨#[]⟩, 10) := if_neg h
theorem ndR_fold (ts : List Rat) (c : Rat) : ndR (ts.foldl (· + ·) c) ≤ ndR c + (ts.map fun t => ndR t + 1).sum := by
 induction ts generalizing c with
 | nil => exact Nat.le_refl _
 | cons t ts ih =>
  have h1 := ih (c + t)
  have h2 := ndR_add c t
  simp only [List.foldl_cons, List.map_cons, List.sum_cons]
  omega
theorem ndR_back (ts : List Rat) (c : Rat) : ndR c ≤ ndR (ts.foldl (· + ·) c) + (ts.map fun t => ndR t + 1).sum := by
 induction ts generalizing c with
 | nil => exact Nat.le_refl _
 | cons t ts ih =>
  have h1 := ih (c + t)
  have h2 := ndR_sub (c + t) t
  rw [Rat.add_sub_cancel] at h2
  simp only [List.foldl_cons, List.map_cons, List.sum_cons]
  omega
theorem sum_bd (ts : List Rat) (m : Nat) (h : ∀ t ∈ ts, ndR t ≤ m) : (ts.map fun t => ndR t + 1).sum ≤ (m + 1) * ts.length := by
 induction ts with
 | nil => exact Nat.le_refl _
 | cons t ts ih =>
  have h1 := ih fun x hx => h x (List.mem_cons_of_mem _ hx)
  have h2 := h t List.mem_cons_self
  simp only [List.map_cons, List.sum_cons, List.length_cons, Nat.mul_add, Nat.mul_one]
  omega
theorem part_short (ts : List Rat) (c : Rat) (hl : ts.length ≤ 32) (ht : ∀ t ∈ ts, ndR t ≤ 200) (hc : ndR c ≤ 100) (hs : ndR (ts.foldl (· + ·) c) ≤ 100) (k : Nat) : ndR ((ts.take k).foldl (· + ·) c) ≤ 3316 := by
 have h1 := ndR_fold (ts.take k) c
 have h2 := sum_bd (ts.take k) 200 fun t h => ht t (List.mem_of_mem_take h)
 have h3 := ndR_back (ts.drop k) ((ts.take k).foldl (· + ·) c)
 have h4 := sum_bd (ts.drop k) 200 fun t h => ht t (List.mem_of_mem_drop h)
 rw [← List.foldl_append, List.take_append_drop] at h3
 rw [List.length_take] at h2
 rw [List.length_drop] at h4
 have e2 := Nat.mul_le_mul_left 201 (Nat.min_le_left k ts.length)
 have e3 := Nat.mul_le_mul_left 201 (Nat.min_le_right k ts.length)
 rcases Nat.lt_or_ge 16 k with h | h
 · have := Nat.mul_le_mul_left 201 (show ts.length - k ≤ 15 by omega)
   omega
 · have := Nat.mul_le_mul_left 201 h
   omega
end Go.Proofs.YtihbebbabjklkaaGreatDoor.PA
