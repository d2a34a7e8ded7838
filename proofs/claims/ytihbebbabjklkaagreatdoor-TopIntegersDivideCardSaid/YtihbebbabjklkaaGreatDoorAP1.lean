import Derived.Test.YtihbebbabjklkaaGreatDoorAD
set_option linter.unusedVariables false
set_option linter.unusedSimpArgs false
namespace Go.Proofs.YtihbebbabjklkaaGreatDoor.PA
open Go.RowKit Go.Proofs.WWords
def Ev {α : Type} (f : Nat → Option α) (x : α) : Prop := ∃ n, ∀ k, n ≤ k → f k = some x
theorem Ev.of {α : Type} {o : Option α} {x : α} (h : o = some x) : Ev (fun _ => o) x := ⟨0, fun _ _ => h⟩
theorem Ev.bind {α β : Type} {f : Nat → Option α} {g : Nat → α → Option β} {x : α} {y : β} (hf : Ev f x) (hg : Ev (fun k => g k x) y) : Ev (fun k => (f k).bind (g k)) y := by
 obtain ⟨n, hn⟩ := hf
 obtain ⟨m, hm⟩ := hg
 exact ⟨max n m, fun k hk => by
  have h1 := hn k (by omega)
  have h2 := hm k (by omega)
  simp only [h1, Option.bind_some]
  exact h2⟩
theorem Ev.succ {α : Type} {f : Nat → Option α} {x : α} (h : Ev (fun k => f (k + 1)) x) : Ev f x := by
 obtain ⟨n, hn⟩ := h
 refine ⟨n + 1, fun k hk => ?_⟩
 obtain ⟨j, rfl⟩ : ∃ j, k = j + 1 := ⟨k - 1, by omega⟩
 exact hn j (by omega)
theorem w64 {n : Int} (h0 : -9223372036854775808 ≤ n) (h1 : n ≤ 9223372036854775807) : wrap64 n = n := by unfold wrap64; omega
theorem rd_nat (l : List Int) (i : Nat) : rd l (i : Int) = l.getD i 0 := by simp [rd]
theorem rd_get (l : List Int) (i : Nat) (h : i < l.length) : rd l (i : Int) = l[i] := by simp [rd, h]
theorem bt_nat (s : ByteArray) (i : Nat) (h : i < s.size) : bt s (i : Int) = ((s.data.toList[i]'(by rw [Array.length_toList]; exact h)).toNat : Int) := by
 have h' : ((i : Int)).toNat < s.size := by simpa using h
 unfold bt
 rw [dif_pos h']
 simp only [Int.toNat_natCast, Array.getElem_toList]
 rfl
theorem txt_size_pos (n : Int) : 0 < (Sv.txt n).size := by
 rw [Sv.txt_size]
 have := Sv.nd_pos n
 omega
theorem bt_txt0 (n : Int) : (bt (Sv.txt n) 0 = 45) ↔ n < 0 := by
 have h := bt_nat (Sv.txt n) 0 (txt_size_pos n)
 rw [show ((0 : Nat) : Int) = 0 from rfl] at h
 rw [h]
 have hh := Sv.txtN_head n.natAbs
 have he : (Sv.txt n).data.toList = Sv.txtL n := rfl
 have hg : ∀ (c : UInt8) , (Sv.txt n).data.toList.head? = some c → ((Sv.txt n).data.toList[0]'(by rw [Array.length_toList]; exact txt_size_pos n)) = c := by
  intro c hc
  rw [List.head?_eq_getElem?] at hc
  exact (List.getElem?_eq_some_iff.1 hc).2
 by_cases hn : n < 0
 ·have := hg 45 (by rw [he, Sv.txtL, if_pos hn]; rfl)
  rw [this]
  exact ⟨fun _ => hn, fun _ => rfl⟩
 ·refine ⟨fun e => absurd ?_ hh, fun e => absurd e hn⟩
  have h0 : 0 < (Sv.txt n).data.toList.length := by rw [Array.length_toList]; exact txt_size_pos n
  have e2 : (Sv.txt n).data.toList[0]'h0 = 45 := UInt8.toNat_inj.1 (by simpa using Int.ofNat_inj.1 (by simpa using e))
  have h3 : (Sv.txt n).data.toList.head? = some 45 := by rw [List.head?_eq_getElem?, List.getElem?_eq_getElem h0, e2]
  rw [he, Sv.txtL, if_neg hn] at h3
  exact h3
theorem ref_Negative (n : Int) : rENegative.f (Sv.txt n) = some (decide (n < 0)) := by
 have h := txt_size_pos n
 unfold rENegative.f
 rw [if_pos (by omega)]
 congr 1
 have := bt_txt0 n
 by_cases hn : n < 0 <;> simp [hn, this]
theorem ref_Digits (n : Int) (h : Sv.nd n ≤ 9223372036854775806) : rEDigits.f (Sv.txt n) = some (Sv.nd n : Int) := by
 unfold rEDigits.f
 rw [ref_Negative]
 simp only [Option.bind_some]
 have := Sv.txt_size n
 by_cases hn : n < 0
 ·simp only [decide_eq_true hn, if_pos]
  rw [if_pos hn] at this
  rw [this, w64 (by omega) (by omega)]
  congr 1
  omega
 ·simp only [decide_eq_false hn]
  rw [if_neg hn] at this
  simp [this]
theorem txt_eq0 (n : Int) : (Sv.txt n).toList = ([48] : List UInt8) ↔ n = 0 := by
 rw [ByteArray.toList_eq]
 refine ⟨fun h => ?_, fun h => by subst h; decide⟩
 apply Sv.txt_inj.1
 show (⟨_⟩ : ByteArray) = ⟨_⟩
 congr 1
 apply Array.toList_inj.1
 exact h.trans (by decide)
theorem txtN_mem {n : Nat} {c : UInt8} (h : c ∈ Sv.txtN n) : 48 ≤ c.toNat ∧ c.toNat ≤ 57 := by
 by_cases h0 : n = 0
 ·subst h0
  have : c = 48 := by simpa [Sv.txtN] using h
  subst this; decide
 ·exact (Sv.pos_txtN (by omega)).digs c h
theorem valN_cons (c : UInt8) (l : List UInt8) : Sv.valN (c :: l) = Sv.chd c * 10 ^ l.length + Sv.valN l := by
 unfold Sv.valN
 rw [List.reverse_cons, List.map_append, Sv.vl_append]
 simp only [List.map_cons, List.map_nil, Sv.vl_cons, Sv.vl_nil, List.length_map, List.length_reverse]
 grind
theorem valN_nonneg {l : List UInt8} (h : ∀ c ∈ l, 48 ≤ c.toNat ∧ c.toNat ≤ 57) : 0 ≤ Sv.valN l := by
 refine Sv.vl_nonneg (by omega) ?_
 intro x hx
 obtain ⟨c, hc, rfl⟩ := List.mem_map.1 hx
 have := h c (List.mem_reverse.1 hc)
 unfold Sv.chd
 omega
set_option linter.unusedVariables false
set_option linter.unusedSimpArgs false
theorem ba_ext {a b : ByteArray} (h : a.data.toList = b.data.toList) : a = b := by
 cases a; cases b
 congr 1
 exact Array.toList_inj.1 h
set_option linter.unusedVariables false
set_option linter.unusedSimpArgs false
theorem Ev.eq {α : Type} {f : Nat → Option α} {x y : α} (h : Ev f x) (e : x = y) : Ev f y := e ▸ h
theorem ref_Magnitude (n : Int) : rEMagnitude.f (Sv.txt n) = some (Sv.txt n.natAbs) := by
 unfold rEMagnitude.f
 rw [ref_Negative]
 simp only [Option.bind_some]
 have hp := txt_size_pos n
 by_cases hn : n < 0
 ·rw [if_pos (by simpa using hn), if_pos (by omega)]
  congr 1
  apply ba_ext
  rw [ByteArray.data_extract, Array.toList_extract]
  show List.extract (Sv.txtL n) 1 _ = Sv.txtL n.natAbs
  have e : (Sv.txt n).size = (Sv.txtL n).length := by rw [Sv.txt, ByteArray.size]; simp
  rw [e, Sv.txtL, if_pos hn, Sv.txtL, if_neg (by omega), Int.natAbs_natCast]
  simp [List.extract]
 ·rw [if_neg (by simpa using hn)]
  congr 2
  omega
set_option linter.unusedVariables false
set_option linter.unusedSimpArgs false
theorem natAbs_lt_nd (m : Int) : m.natAbs < 10 ^ Sv.nd m := Sv.lt_of_nd m
set_option linter.unusedVariables false
set_option linter.unusedSimpArgs false
theorem Ev.bs {α β : Type} {o : Option α} {g : Nat → α → Option β} {x : α} {y : β} (h : o = some x) (hg : Ev (fun k => g k x) y) : Ev (fun k => o.bind (g k)) y := Ev.bind (Ev.of h) hg
theorem Ev.pos {α : Type} {c : Prop} [d : Decidable c] {f g : Nat → Option α} {x : α} (h : c) (hf : Ev f x) : Ev (fun k => if c then f k else g k) x := by simp only [if_pos h]; exact hf
theorem Ev.neg {α : Type} {c : Prop} [d : Decidable c] {f g : Nat → Option α} {x : α} (h : ¬ c) (hg : Ev g x) : Ev (fun k => if c then f k else g k) x := by simp only [if_neg h]; exact hg
theorem w64n {i : Int} {n : Nat} (h : i = n) (h1 : n ≤ 9223372036854775807) : wrap64 i = (n : Int) := by subst h; exact w64 (by omega) (by omega)
theorem wmul {B x y z c : Int} (hB : 0 < B) (hB2 : B * B ≤ 9223372036854775807) (hx : 0 ≤ x ∧ x < B) (hy : 0 ≤ y ∧ y < B) (hz : 0 ≤ z ∧ z < B) (hc : 0 ≤ c ∧ c < B) :
  wrap64 (x * y) = x * y ∧ wrap64 (z + x * y) = z + x * y ∧ wrap64 (c + (z + x * y)) = c + (z + x * y) ∧ Int.tmod (c + (z + x * y)) B = (c + (z + x * y)) % B ∧ Int.tdiv (c + (z + x * y)) B = (c + (z + x * y)) / B ∧ wrap64 ((c + (z + x * y)) / B) = (c + (z + x * y)) / B := by
 obtain ⟨h1, h2, h3, h4, h5, h6, h7, h8, h9⟩ := Sv.mul_step hB hx hy hz hc
 have hb : B ≤ B * B := by have := Int.mul_le_mul_of_nonneg_left (show 1 ≤ B by omega) (show 0 ≤ B by omega); omega
 refine ⟨w64 (by omega) (by omega), w64 (by omega) (by omega), w64 (by omega) (by omega), Int.tmod_eq_emod_of_nonneg h4, Int.tdiv_eq_ediv_of_nonneg h4, w64 (by omega) (by omega)⟩
theorem nd_mul (m n : Int) : Sv.nd (m * n) ≤ Sv.nd m + Sv.nd n := by
 have h1 := natAbs_lt_nd m
 have h2 := natAbs_lt_nd n
 refine Sv.nd_le (by have := Sv.nd_pos m; omega) ?_
 rw [Int.natAbs_mul, Nat.pow_add]
 exact Nat.mul_lt_mul'' h1 h2
set_option linter.unusedVariables false
set_option linter.unusedSimpArgs false
open Go.RowKit Go.Proofs.WWords Go.Proofs.WMore
theorem fdiv_uniq {m n q r : Int} (h : m = n * q + r) (hr : (0 ≤ r ∧ r < n) ∨ (n < r ∧ r ≤ 0)) : m.fdiv n = q ∧ m.fmod n = r := by
 rcases hr with ⟨h0, h1⟩ | ⟨h0, h1⟩
 ·rw [Int.fdiv_eq_ediv_of_nonneg m (by omega), Int.fmod_eq_emod_of_nonneg m (by omega)]
  have := (Int.ediv_emod_unique (a := m) (b := n) (r := r) (q := q) (by omega)).2 ⟨by rw [h]; omega, h0, h1⟩
  exact this
 ·have e1 : (-m).fdiv (-n) = m.fdiv n := Int.neg_fdiv_neg m n
  have e2 : (-m).ediv (-n) = q ∧ (-m).emod (-n) = -r := by
   refine (Int.ediv_emod_unique (a := -m) (b := -n) (r := -r) (q := q) (by omega)).2 ⟨?_, by omega, by omega⟩
   rw [Int.neg_mul]; omega
  have e3 : m.fdiv n = q := by rw [← e1, Int.fdiv_eq_ediv_of_nonneg _ (by omega)]; exact e2.1
  refine ⟨e3, ?_⟩
  have := Int.mul_fdiv_add_fmod m n
  rw [e3] at this
  omega
theorem floor_tdiv (m n : Int) (hn : n ≠ 0) : m.fdiv n = if m.tmod n = 0 then m.tdiv n else if (decide (m < 0) != decide (n < 0)) = true then m.tdiv n - 1 else m.tdiv n := by
 have h := Int.mul_tdiv_add_tmod m n
 have h1 : 0 ≤ m → 0 ≤ m.tmod n := fun h => Int.tmod_nonneg n h
 have h2 : m ≤ 0 → m.tmod n ≤ 0 := fun h => by
  have := Int.tmod_nonneg n (show 0 ≤ -m by omega)
  rw [Int.neg_tmod] at this
  omega
 have h3 : (m.tmod n).natAbs < n.natAbs := by rw [Int.natAbs_tmod]; exact Nat.mod_lt _ (by omega)
 generalize m.tmod n = r at *
 generalize m.tdiv n = q at *
 have hsub : n * (q - 1) = n * q - n := by rw [Int.mul_sub, Int.mul_one]
 split
 ·exact (fdiv_uniq (r := 0) (by omega) (by omega)).1
 ·split
  ·rename_i h0 hs
   refine (fdiv_uniq (r := r + n) (by rw [hsub]; omega) ?_).1
   by_cases hm : m < 0 <;> by_cases hn' : n < 0 <;> simp [hm, hn'] at hs
   ·left; omega
   ·right; omega
  ·rename_i h0 hs
   refine (fdiv_uniq (r := r) (by omega) ?_).1
   by_cases hm : m < 0 <;> by_cases hn' : n < 0 <;> simp [hm, hn'] at hs
   ·right; omega
   ·left; omega
theorem pw_mono {i j : Nat} (h : i ≤ j) : Sv.pw 10 i ≤ Sv.pw 10 j := by
 rw [Sv.pw_eq, Sv.pw_eq]
 have := Nat.pow_le_pow_right (n := 10) (by omega) h
 exact_mod_cast this
theorem fdiv_signs (m n : Int) (hn : n ≠ 0) : m.fdiv n = if (decide (m < 0) != decide (n < 0)) = true then -((m.natAbs / n.natAbs : Nat) : Int) - (if m.natAbs % n.natAbs = 0 then 0 else 1) else ((m.natAbs / n.natAbs : Nat) : Int) := by
 rw [floor_tdiv m n hn]
 have h3 : (m.tmod n).natAbs = m.natAbs % n.natAbs := Int.natAbs_tmod ..
 have h4 : (m.tdiv n).natAbs = m.natAbs / n.natAbs := Int.natAbs_tdiv ..
 have h5 : (decide (m < 0) != decide (n < 0)) = true → m.tdiv n ≤ 0 := fun h => by
  by_cases hm : m < 0 <;> by_cases hn' : n < 0 <;> simp [hm, hn'] at h
  ·have := Int.tdiv_nonneg (show 0 ≤ -m by omega) (show 0 ≤ n by omega)
   rw [Int.neg_tdiv] at this
   omega
  ·have := Int.tdiv_nonneg (show 0 ≤ m by omega) (show 0 ≤ -n by omega)
   rw [Int.tdiv_neg] at this
   omega
 have h6 : ¬ (decide (m < 0) != decide (n < 0)) = true → 0 ≤ m.tdiv n := fun h => by
  by_cases hm : m < 0 <;> by_cases hn' : n < 0 <;> simp [hm, hn'] at h
  ·have := Int.tdiv_nonneg (show 0 ≤ -m by omega) (show 0 ≤ -n by omega)
   rw [Int.neg_tdiv, Int.tdiv_neg] at this
   omega
  ·exact Int.tdiv_nonneg (by omega) (by omega)
 generalize m.natAbs / n.natAbs = Q at *
 generalize m.natAbs % n.natAbs = M at *
 generalize m.tdiv n = q at *
 generalize m.tmod n = r at *
 generalize (decide (m < 0) != decide (n < 0)) = b at *
 cases b
 ·have := h6 (by simp)
  simp only [Bool.false_eq_true, if_false]
  split <;> omega
 ·have := h5 rfl
  simp only [if_true]
  split <;> split <;> omega
theorem nd_fdiv (m n : Int) (hn : n ≠ 0) : Sv.nd (m.fdiv n) ≤ Sv.nd m + 1 := by
 refine Sv.nd_le (by omega) ?_
 have h := natAbs_lt_nd m
 have hq : m.natAbs / n.natAbs ≤ m.natAbs := Nat.div_le_self _ _
 have := fdiv_signs m n hn
 have hp : 10 ^ (Sv.nd m + 1) = 10 * 10 ^ Sv.nd m := by rw [Nat.pow_succ]; omega
 rw [hp, this]
 generalize m.natAbs / n.natAbs = Q at *
 generalize m.natAbs % n.natAbs = M at *
 generalize 10 ^ Sv.nd m = P at *
 generalize (decide (m < 0) != decide (n < 0)) = b at *
 cases b
 ·simp only [Bool.false_eq_true, if_false]; omega
 ·simp only [if_true]; split <;> omega
theorem txt1 : Sv.txt 1 = ⟨#[49]⟩ := by simp [Sv.txt, Sv.txtL, Sv.txtN, Sv.dg, Sv.dch]
theorem txt0 : Sv.txt 0 = ⟨#[48]⟩ := rfl
theorem mul_fdiv_bound (m n : Int) (hn : n ≠ 0) : (n * m.fdiv n).natAbs ≤ m.natAbs + n.natAbs ∧ (m.fmod n).natAbs < n.natAbs := by
 have h1 := Int.mul_fdiv_add_fmod m n
 have h2 : (m.fmod n).natAbs < n.natAbs := by
  by_cases h : 0 < n
  ·have a := Int.fmod_nonneg_of_pos m h
   have b := Int.fmod_lt_of_pos m h
   omega
  ·have e : (-m).fmod (-n) = -(m.fmod n) := Int.neg_fmod_neg m n
   have a := Int.fmod_nonneg_of_pos (-m) (show 0 < -n by omega)
   have b := Int.fmod_lt_of_pos (-m) (show 0 < -n by omega)
   omega
 refine ⟨?_, h2⟩
 omega
theorem nd_mono {m n : Int} (h : m.natAbs ≤ n.natAbs) : Sv.nd m ≤ Sv.nd n := Sv.nd_le (Sv.nd_pos n) (Nat.lt_of_le_of_lt h (natAbs_lt_nd n))
set_option linter.unusedVariables false
set_option linter.unusedSimpArgs false
noncomputable def canoB (s : ByteArray) : Bool := @decide (Sv.Cano s) (Classical.propDecidable _)
theorem canoB_iff {s : ByteArray} : canoB s = true ↔ Sv.Cano s := by unfold canoB; exact @decide_eq_true_iff _ (Classical.propDecidable _)
theorem canoB_eq {s : ByteArray} {b : Bool} (h : b = true ↔ Sv.Cano s) : canoB s = b := by
 rw [Bool.eq_iff_iff, canoB_iff]; exact h.symm
theorem canoB_txt (n : Int) : canoB (Sv.txt n) = true := canoB_iff.2 ⟨n, rfl⟩
noncomputable def chkI (s : ByteArray) : Int := if canoB s = true then (if (Sv.nd (Sv.val s) : Int) > 4096 then 10 else 0) else 3
theorem chkI_txt (n : Int) : chkI (Sv.txt n) = if (Sv.nd n : Int) > 4096 then 10 else 0 := by
 unfold chkI; rw [if_pos (canoB_txt n), Sv.val_txt]
theorem chkI_small {n : Int} (h : Sv.nd n ≤ 4096) : chkI (Sv.txt n) = 0 := by rw [chkI_txt, if_neg (by omega)]
theorem of_chkI {s : ByteArray} (h : chkI s = 0) : ∃ n, s = Sv.txt n ∧ Sv.nd n ≤ 4096 := by
 unfold chkI at h
 by_cases hc : canoB s = true
 ·obtain ⟨n, rfl⟩ := canoB_iff.1 hc
  rw [if_pos hc, Sv.val_txt] at h
  refine ⟨n, rfl, ?_⟩
  by_cases h2 : (Sv.nd n : Int) > 4096
  ·rw [if_pos h2] at h; cases h
  ·omega
 ·rw [if_neg hc] at h; cases h
theorem sz_list (s : ByteArray) : s.data.toList.length = s.size := Array.length_toList
theorem form_l0 (s : ByteArray) (hs : s.size ≤ 1000000000000000000) (j : Nat) : ∀ i : Nat, i + j = s.size → Ev (fun k => rEForm.l0 k s i) (decide (AllD (s.data.toList.drop i))) := by
 induction j with
 | zero =>
  intro i hi
  refine Ev.succ ?_
  simp only [rEForm.l0]
  refine Ev.neg (by omega) (Ev.of ?_)
  rw [List.drop_eq_nil_of_le (by rw [sz_list]; omega)]
  rfl
 | succ j ih =>
  intro i hi
  refine Ev.succ ?_
  have hi' : i < s.data.toList.length := by rw [sz_list]; omega
  have ed : s.data.toList.drop i = s.data.toList[i] :: s.data.toList.drop (i + 1) := List.drop_eq_getElem_cons hi'
  simp only [rEForm.l0]
  rw [bt_nat s i (by omega)]
  refine Ev.pos (by omega) (Ev.pos (by omega) ?_)
  by_cases h1 : ((s.data.toList[i]).toNat : Int) < 48
  ·refine Ev.pos h1 (Ev.of ?_)
   rw [ed]
   congr 1; symm; apply decide_eq_false
   intro h
   have := h _ (List.mem_cons_self ..)
   omega
  ·refine Ev.neg h1 ?_
   by_cases h2 : ((s.data.toList[i]).toNat : Int) > 57
   ·refine Ev.pos h2 (Ev.of ?_)
    rw [ed]
    congr 1; symm; apply decide_eq_false
    intro h
    have := h _ (List.mem_cons_self ..)
    omega
   ·refine Ev.neg h2 ?_
    rw [(w64n (by omega) (by omega) : wrap64 ((i : Int) + 1) = ((i + 1 : Nat) : Int))]
    refine (ih (i + 1) (by omega)).eq ?_
    rw [ed]
    apply decide_eq_decide.2
    refine ⟨fun h c hc => ?_, fun h c hc => h c (List.mem_cons_of_mem _ hc)⟩
    rcases List.mem_cons.1 hc with rfl | hc
    ·omega
    ·exact h c hc
theorem toList_iff (s : ByteArray) (l : List UInt8) : s.toList = l ↔ s.data.toList = l := by rw [ByteArray.toList_eq]
theorem u8_eq {c : UInt8} {n : Nat} (hn : n < 256) : ((c.toNat : Int) = (n : Int)) ↔ c = UInt8.ofNat n := by
 constructor
 ·intro h
  apply UInt8.toNat_inj.1
  rw [UInt8.toNat_ofNat_of_lt' hn]; omega
 ·rintro rfl
  rw [UInt8.toNat_ofNat_of_lt' hn]
theorem u8_48 {c : UInt8} : ((c.toNat : Int) = 48) ↔ c = 48 := u8_eq (n := 48) (by omega)
theorem u8_45 {c : UInt8} : ((c.toNat : Int) = 45) ↔ c = 45 := u8_eq (n := 45) (by omega)
theorem pos_iff {l : List UInt8} : Sv.Pos l ↔ l ≠ [] ∧ l.head? ≠ some 48 ∧ AllD l := ⟨fun h => ⟨h.ne, h.head, h.digs⟩, fun h => ⟨h.1, h.2.1, h.2.2⟩⟩
theorem cano_neg {s : ByteArray} {m : List UInt8} (h : s.data.toList = 45 :: m) : Sv.Cano s ↔ Sv.Pos m := by
 rw [Sv.cano_iff, h]
 constructor
 ·rintro (h | h | ⟨m', h, hm⟩)
  ·cases h
  ·exact absurd (h.digs 45 (by simp)).1 (by decide)
  ·cases h; exact hm
 ·exact fun h => .inr (.inr ⟨m, rfl, h⟩)
theorem cano_nn {s : ByteArray} (h0 : s.data.toList.head? ≠ some 45) (h48 : s.data.toList ≠ [48]) : Sv.Cano s ↔ Sv.Pos s.data.toList := by
 rw [Sv.cano_iff]
 constructor
 ·rintro (h | h | ⟨m', h, hm⟩)
  ·exact absurd h h48
  ·exact h
  ·rw [h] at h0; simp at h0
 ·exact fun h => .inr (.inl h)
theorem form_j1 (s : ByteArray) (hs : s.size ≤ 1000000000000000000) (i : Nat) (hi : i ≤ s.size) (h : Sv.Cano s ↔ Sv.Pos (s.data.toList.drop i)) : Ev (fun k => rEForm.j1 k s i) (canoB s) := by
 refine Ev.succ ?_
 simp only [rEForm.j1]
 by_cases he : i = s.size
 ·refine Ev.pos (by omega) (Ev.succ ?_)
  simp only [rEForm.j2, if_true]
  refine Ev.of ?_
  congr 1; symm; apply canoB_eq
  rw [h, List.drop_eq_nil_of_le (by rw [sz_list]; omega)]
  exact ⟨fun h => by simp at h, fun h => absurd rfl h.ne⟩
 ·have hi' : i < s.data.toList.length := by rw [sz_list]; omega
  have ed : s.data.toList.drop i = s.data.toList[i] :: s.data.toList.drop (i + 1) := List.drop_eq_getElem_cons hi'
  refine Ev.neg (by omega) (Ev.pos (by omega) (Ev.pos (by omega) (Ev.succ ?_)))
  simp only [rEForm.j2]
  rw [bt_nat s i (by omega)]
  by_cases hz : s.data.toList[i] = 48
  ·refine Ev.pos (by rw [hz]; rfl) (Ev.of ?_)
   congr 1; symm; apply canoB_eq
   rw [h, ed, hz]
   exact ⟨fun h => by simp at h, fun h => absurd rfl h.head⟩
  ·refine Ev.neg (by rw [beq_iff_eq, u8_48]; exact hz) ((form_l0 s hs (s.size - i) i (by omega)).eq ?_)
   symm; apply canoB_eq
   rw [h, pos_iff, decide_eq_true_iff]
   refine ⟨fun h => ⟨by rw [ed]; simp, by rw [ed]; simpa using hz, h⟩, fun h => h.2.2⟩
theorem ref_Form (s : ByteArray) (hs : s.size ≤ 1000000000000000000) : Ev (fun k => rEForm.f k s) (canoB s) := by
 unfold rEForm.f
 by_cases h48 : s.toList = [48]
 ·refine Ev.pos h48 (Ev.of ?_)
  congr 1; symm; apply canoB_eq
  rw [toList_iff] at h48
  exact ⟨fun _ => Sv.cano_iff.2 (.inl h48), fun _ => rfl⟩
 ·refine Ev.neg h48 ?_
  rw [toList_iff] at h48
  by_cases h0 : s.size = 0
  ·have hnil : s.data.toList = [] := List.length_eq_zero_iff.1 (by rw [sz_list]; exact h0)
   refine Ev.neg (by omega) (Ev.succ ?_)
   simp only [rEForm.j0]
   refine Ev.neg (by simp) (form_j1 s hs 0 (by omega) ?_)
   rw [List.drop_zero]
   exact cano_nn (by rw [hnil]; simp) h48
  ·have hl : 0 < s.data.toList.length := by rw [sz_list]; omega
   have ed : s.data.toList = s.data.toList[0] :: s.data.toList.drop 1 := List.drop_eq_getElem_cons hl
   refine Ev.pos (by omega) (Ev.pos (by omega) (Ev.succ ?_))
   simp only [rEForm.j0]
   have hb := bt_nat s 0 (by omega)
   rw [show ((0 : Nat) : Int) = 0 from rfl] at hb
   rw [hb]
   by_cases h45 : s.data.toList[0] = 45
   ·refine Ev.pos (by rw [h45]; rfl) (form_j1 s hs 1 (by omega) ?_)
    exact cano_neg (by conv => lhs; rw [ed, h45])
   ·refine Ev.neg (by rw [beq_iff_eq, u8_45]; exact h45) (form_j1 s hs 0 (by omega) ?_)
    rw [List.drop_zero]
    exact cano_nn (by rw [ed]; simpa using h45) h48
theorem nd_size (n : Int) : Sv.nd n ≤ (Sv.txt n).size := by rw [Sv.txt_size]; omega
theorem ref_Check (s : ByteArray) (hs : s.size ≤ 1000000000000000000) : Ev (fun k => rECheck.f k s) (chkI s) := by
 unfold rECheck.f
 refine Ev.bind (ref_Form s hs) ?_
 unfold chkI
 by_cases h : canoB s = true
 ·refine Ev.pos h ?_
  rw [if_pos h]
  obtain ⟨n, rfl⟩ := canoB_iff.1 h
  have := nd_size n
  refine Ev.bs (ref_Digits n (by omega)) ?_
  rw [Sv.val_txt]
  split <;> exact Ev.of rfl
 ·refine Ev.neg h ?_
  rw [if_neg h]
  exact Ev.of rfl
theorem cut45 (s : ByteArray) : strings_CutPrefix.f s ⟨#[45]⟩ = some (if s.data.toList.head? = some 45 then (⟨(s.data.toList.drop 1).toArray⟩, true) else (s, false)) := by
 unfold strings_CutPrefix.f Lib.trimPrefix Lib.hasPrefix
 show some ((⟨(if ([45] : List UInt8).isPrefixOf s.data.toList = true then s.data.toList.drop 1 else s.data.toList).toArray⟩ : ByteArray), ([45] : List UInt8).isPrefixOf s.data.toList) = _
 cases hl : s.data.toList with
 | nil =>
  simp only [List.isPrefixOf, List.head?_nil, reduceCtorEq, if_false, Bool.false_eq_true]
  rw [← hl]
 | cons c m =>
  by_cases hc : c = 45
  ·subst hc; simp [List.isPrefixOf]
  ·have : ((45 : UInt8) == c) = false := by simpa using fun e => hc e.symm
   simp only [List.isPrefixOf, this, Bool.false_and, Bool.false_eq_true, if_false, List.head?_cons, Option.some.injEq, hc]
   rw [← hl]
theorem ba_mk (l : List UInt8) : (⟨l.toArray⟩ : ByteArray).data.toList = l := by simp
theorem mk_size (l : List UInt8) : (⟨l.toArray⟩ : ByteArray).size = l.length := by show l.toArray.size = _; simp
theorem dropWhile_nil {l : List UInt8} {p : UInt8 → Bool} (h : l.dropWhile p = []) : ∀ c ∈ l, p c = true := by
 induction l with
 | nil => simp
 | cons a l ih =>
  rw [List.dropWhile_cons] at h
  split at h
  ·intro c hc
   rcases List.mem_cons.1 hc with rfl | hc
   ·assumption
   ·exact ih h c hc
  ·cases h
theorem dig_mem (c : UInt8) : ([48, 49, 50, 51, 52, 53, 54, 55, 56, 57] : List UInt8).contains c = true ↔ 48 ≤ c.toNat ∧ c.toNat ≤ 57 := by
 have key : ∀ n : Fin 256, (([48, 49, 50, 51, 52, 53, 54, 55, 56, 57] : List UInt8).contains (UInt8.ofNat n.val) = true ↔ 48 ≤ n.val ∧ n.val ≤ 57) := by decide +kernel
 have := key ⟨c.toNat, c.toNat_lt⟩
 simpa using this
theorem trimS_nil (l : List UInt8) : Lib.trimS l [48, 49, 50, 51, 52, 53, 54, 55, 56, 57] = [] ↔ AllD l := by
 unfold Lib.trimS Lib.trimLeftS Lib.trimRightS
 constructor
 ·intro h c hc
  have h1 := dropWhile_nil h
  by_cases hd : ([48, 49, 50, 51, 52, 53, 54, 55, 56, 57] : List UInt8).contains c = true
  ·exact (dig_mem c).1 hd
  ·exfalso
   have h2 : l.reverse.dropWhile (([48, 49, 50, 51, 52, 53, 54, 55, 56, 57] : List UInt8).contains ·) = [] := by
    cases hq : l.reverse.dropWhile (([48, 49, 50, 51, 52, 53, 54, 55, 56, 57] : List UInt8).contains ·) with
    | nil => rfl
    | cons a t =>
     have ha := List.head?_dropWhile_not (([48, 49, 50, 51, 52, 53, 54, 55, 56, 57] : List UInt8).contains ·) l.reverse
     rw [hq] at ha
     have := h1 a (by rw [hq]; simp)
     simp only [List.head?_cons] at ha
     rw [this] at ha
     cases ha
   exact hd (dropWhile_nil h2 c (List.mem_reverse.2 hc))
 ·intro h
  have h2 : l.reverse.dropWhile (([48, 49, 50, 51, 52, 53, 54, 55, 56, 57] : List UInt8).contains ·) = [] := by
   have : ∀ m : List UInt8, AllD m → m.dropWhile (([48, 49, 50, 51, 52, 53, 54, 55, 56, 57] : List UInt8).contains ·) = [] := by
    intro m hm
    induction m with
    | nil => rfl
    | cons a m ih =>
     rw [List.dropWhile_cons, if_pos ((dig_mem a).2 (hm a (by simp)))]
     exact ih fun c hc => hm c (by simp [hc])
   exact this _ fun c hc => h c (List.mem_reverse.1 hc)
  rw [h2]; rfl
theorem canon_in (s t : ByteArray) (neg : Bool) (hs : t.size ≤ 1000000000000000000) (h : Sv.Cano s ↔ (t.data.toList = [48] ∧ neg = false) ∨ Sv.Pos t.data.toList) :
  (if t.toList = ([48] : List UInt8) then (some (!neg)) else (if t.toList = ([] : List UInt8) then (some false) else (if 0 < (t.size : Int) then (if (bt t 0) = 48 then (some false) else ((strings_Trim.f t (⟨#[48, 49, 50, 51, 52, 53, 54, 55, 56, 57]⟩ : ByteArray)).bind fun t104 => (some (t104.toList == ([] : List UInt8))))) else (none)))) = some (canoB s) := by
 rw [ByteArray.toList_eq t]
 by_cases h48 : t.data.toList = [48]
 ·rw [if_pos h48]
  congr 1; symm; apply canoB_eq
  rw [h, h48]
  cases neg
  ·simp
  ·refine ⟨fun h => by simp at h, ?_⟩
   rintro (h | h)
   ·cases h.2
   ·exact absurd rfl h.head
 ·rw [if_neg h48]
  by_cases h0 : t.data.toList = []
  ·rw [if_pos h0]
   congr 1; symm; apply canoB_eq
   rw [h, h0]
   refine ⟨fun h => by simp at h, ?_⟩
   rintro (h | h)
   ·cases h.1
   ·exact absurd rfl h.ne
  ·rw [if_neg h0]
   have hl : 0 < t.data.toList.length := List.length_pos_iff.2 h0
   have hl' : 0 < t.size := by rw [← sz_list]; exact hl
   have ed : t.data.toList = t.data.toList[0] :: t.data.toList.drop 1 := List.drop_eq_getElem_cons hl
   have hb := bt_nat t 0 hl'
   rw [show ((0 : Nat) : Int) = 0 from rfl] at hb
   rw [if_pos (by omega), hb]
   by_cases hz : t.data.toList[0] = 48
   ·rw [if_pos (u8_48.2 hz)]
    congr 1; symm; apply canoB_eq
    rw [h]
    refine ⟨fun h => by simp at h, ?_⟩
    rintro (h | h)
    ·exact absurd h.1 h48
    ·exact absurd (by rw [ed, hz]; rfl) h.head
   ·rw [if_neg (fun e => hz (u8_48.1 e))]
    unfold strings_Trim.f
    rw [if_pos ⟨by omega, by decide, by decide⟩, Option.bind_some]
    congr 1; symm; apply canoB_eq
    rw [beq_iff_eq, toList_iff, ba_mk, h]
    show Lib.trimS t.data.toList [48, 49, 50, 51, 52, 53, 54, 55, 56, 57] = [] ↔ _
    rw [trimS_nil, pos_iff]
    constructor
    ·intro h; exact .inr ⟨h0, by rw [ed]; simpa using hz, h⟩
    ·rintro (h | h)
     ·exact absurd h.1 h48
     ·exact h.2.2
theorem bi_canonical (s : ByteArray) (hs : s.size ≤ 1000000000000000000) : bIcanonical.f s = some (canoB s) := by
 unfold bIcanonical.f
 rw [cut45, Option.bind_some]
 by_cases h : s.data.toList.head? = some 45
 ·rw [if_pos h]
  obtain ⟨m, hm⟩ : ∃ m, s.data.toList = 45 :: m := by
   cases hl : s.data.toList with
   | nil => rw [hl] at h; simp at h
   | cons c m => rw [hl] at h; simp at h; exact ⟨m, by rw [h]⟩
  have hsz := sz_list s
  refine canon_in s _ true ?_ ?_
  ·rw [mk_size, List.length_drop]; omega
  ·rw [ba_mk, hm, List.drop_one, List.tail_cons, cano_neg hm]
   simp
 ·rw [if_neg h]
  refine canon_in s s false hs ?_
  by_cases h48 : s.data.toList = [48]
  ·rw [Sv.cano_iff]
   simp [h48]
  ·rw [cano_nn h h48]
   simp [h48]
theorem trimP45 (s : ByteArray) (hs : s.size ≤ 1000000000000000000) : strings_TrimPrefix.f s ⟨#[45]⟩ = some (if s.data.toList.head? = some 45 then s.extract 1 s.size else s) := by
 unfold strings_TrimPrefix.f stringslite_TrimPrefix.f stringslite_HasPrefix.f
 have e1 : (⟨#[45]⟩ : ByteArray).size = 1 := rfl
 have e2 : (⟨#[45]⟩ : ByteArray).toList = [45] := by rw [ByteArray.toList_eq]
 rw [e1]
 by_cases h0 : s.size = 0
 ·have hnil : s.data.toList = [] := List.length_eq_zero_iff.1 (by rw [sz_list]; exact h0)
  rw [if_neg (by omega), hnil]
  rfl
 ·rw [if_pos (by omega), if_pos (by omega), if_pos (by omega), Option.bind_some]
  have he : (s.extract 0 1).data.toList = s.data.toList.take 1 := by
   rw [← ByteArray.toList_eq, Lib.extract_toList]
   simp
  have : ((s.extract 0 ((1 : Nat) : Int).toNat).toList == (⟨#[45]⟩ : ByteArray).toList) = decide (s.data.toList.head? = some 45) := by
   rw [e2, Bool.eq_iff_iff, beq_iff_eq, ByteArray.toList_eq, decide_eq_true_iff]
   show (s.extract 0 1).data.toList = _ ↔ _
   rw [he]
   cases s.data.toList <;> simp
  rw [this]
  by_cases h : s.data.toList.head? = some 45
  ·rw [if_pos h, decide_eq_true h, if_pos rfl, if_pos (by omega), if_pos (by omega)]
   rfl
  ·rw [if_neg h, decide_eq_false h]
   rfl
theorem head45 (n : Int) : (Sv.txt n).data.toList.head? = some 45 ↔ n < 0 := by
 show (Sv.txtL n).head? = some 45 ↔ _
 unfold Sv.txtL
 by_cases h : n < 0
 ·simp [h]
 ·simp only [if_neg h, h, iff_false]; exact Sv.txtN_head _
theorem ext1 (n : Int) (h : n < 0) : (Sv.txt n).extract 1 (Sv.txt n).size = Sv.txt n.natAbs := by
 have := ref_Magnitude n
 unfold rEMagnitude.f at this
 rw [ref_Negative, Option.bind_some, decide_eq_true h, if_pos rfl, if_pos (by have := txt_size_pos n; omega)] at this
 exact Option.some.inj this
theorem trimP_txt (n : Int) (h : Sv.nd n ≤ 100000000000000000) : strings_TrimPrefix.f (Sv.txt n) ⟨#[45]⟩ = some (Sv.txt n.natAbs) := by
 have hs := Sv.txt_size n
 rw [trimP45 _ (by rw [hs]; split <;> omega)]
 congr 1
 by_cases hn : n < 0
 ·rw [if_pos ((head45 n).2 hn), ext1 n hn]
 ·rw [if_neg (fun e => hn ((head45 n).1 e)), show ((n.natAbs : Nat) : Int) = n by omega]
theorem size_abs (n : Int) : (Sv.txt (n.natAbs : Int)).size = Sv.nd n := by
 rw [Sv.txt_size, if_neg (by omega), Sv.nd_natAbs]; rfl
theorem bi_digits (n : Int) (h : Sv.nd n ≤ 100000000000000000) : bIdigits.f (Sv.txt n) = some (Sv.nd n : Int) := by
 unfold bIdigits.f
 rw [trimP_txt n h, Option.bind_some, size_abs]
theorem bi_Check (s : ByteArray) (hs : s.size ≤ 100000000000000000) : bICheck.f s = some (chkI s) := by
 unfold bICheck.f chkI
 rw [bi_canonical s (by omega), Option.bind_some]
 by_cases h : canoB s = true
 ·rw [if_pos h, if_pos h]
  obtain ⟨n, rfl⟩ := canoB_iff.1 h
  have := nd_size n
  rw [bi_digits n (by omega), Option.bind_some, Sv.val_txt]
  split <;> rfl
 ·rw [if_neg h, if_neg h]
set_option linter.unusedVariables false
set_option linter.unusedSimpArgs false
theorem trim_ev (n : Nat) : ∀ l : List Int, l.length = n → n ≤ 9000000000000000000 → Ev (fun k => bItrim.l0 k l) (Sv.cut l) := by
 induction n with
 | zero =>
  intro l hl hb
  have : l = [] := List.length_eq_zero_iff.1 hl
  subst this
  refine Ev.succ ?_
  simp only [bItrim.l0]
  refine Ev.neg (by simp) (Ev.of ?_)
  rw [Sv.cut_of_noz (by simp [Sv.NoZ])]
 | succ n ih =>
  intro l hl hb
  refine Ev.succ ?_
  simp only [bItrim.l0]
  rw [hl]
  have hne : l ≠ [] := by intro e; rw [e] at hl; simp at hl
  have hg : l.getD n 0 = l.getLast hne := by
   rw [List.getLast_eq_getElem]
   simp [List.getD, show n < l.length by omega, hl]
  have hq : l.getLast? = some (l.getLast hne) := List.getLast?_eq_some_getLast hne
  rw [(w64n (by omega) (by omega) : wrap64 (((n + 1 : Nat) : Int) - 1) = (n : Int)), rd_nat, hg, Int.toNat_natCast]
  refine Ev.pos (by omega) (Ev.pos (by omega) (Ev.pos (by omega) ?_))
  by_cases hz : l.getLast hne = 0
  ·refine Ev.pos hz (Ev.pos (by omega) ((ih (l.take n) (by simp; omega) (by omega)).eq ?_))
   conv => rhs; rw [Sv.cut, hq, hz, if_pos rfl]
   rw [List.dropLast_eq_take, hl]
   rfl
  ·refine Ev.neg hz (Ev.of ?_)
   rw [Sv.cut_of_noz]
   unfold Sv.NoZ
   rw [hq]
   simpa using hz
theorem bi_trim (l : List Int) (hl : l.length ≤ 9000000000000000000) : Ev (fun k => bItrim.f k l) (Sv.cut l) := trim_ev _ l rfl hl
abbrev mag (n : Nat) : List Int := Sv.dg 1000000000 n
theorem mag_digs (n : Nat) : Sv.Digs 1000000000 (mag n) := Sv.dg_digs (b := 1000000000) (by omega) n
theorem mag_noz (n : Nat) : Sv.NoZ (mag n) := Sv.dg_noz (by omega) n
theorem vl_mag (n : Nat) : Sv.vl 1000000000 (mag n) = n := Sv.vl_dg (b := 1000000000) (by omega) n
theorem mag_zero : mag 0 = [] := Sv.dg_zero _
theorem mag_ne {n : Nat} (h : 0 < n) : mag n ≠ [] := Sv.dg_ne_nil (by omega) h
theorem mag_len0 (n : Nat) : (mag n).length = 0 ↔ n = 0 := by
 constructor
 ·intro h
  rcases Nat.eq_zero_or_pos n with h0 | h0
  ·exact h0
  ·exact absurd (List.length_eq_zero_iff.1 h) (mag_ne h0)
 ·rintro rfl; rw [mag_zero]; rfl
theorem cut_mag {l : List Int} (h : Sv.Digs 1000000000 l) {n : Nat} (hv : Sv.vl 1000000000 l = n) : Sv.cut l = mag n := by
 rw [Sv.cut_eq_dg (b := 1000000000) (by omega) h]
 show Sv.dg 1000000000 (Sv.vl 1000000000 l).toNat = _
 rw [hv, Int.toNat_natCast]
theorem mag_mono {m n : Nat} (h : m ≤ n) : (mag m).length ≤ (mag n).length := Sv.dg_length_mono (by omega) h
theorem add_inv {B V I X Y c x y z : Int} (hv : V + I * c = X + Y) (hz : z = c + x + y) : V + I * (z % B - 0) + B * I * (z / B) = (X + I * x) + (Y + I * y) := by
 have h := Int.emod_add_mul_ediv z B
 generalize z % B = r at *
 generalize z / B = s at *
 have : r = z - B * s := by omega
 subst this
 subst hz
 grind
theorem dm {z B : Int} (h0 : 0 ≤ z) (hB : 0 < B) (h : z ≤ 9000000000000000000) : Int.tmod z B = z % B ∧ wrap64 (Int.tdiv z B) = z / B := by
 have h1 : z / B ≤ z := Int.ediv_le_self _ h0
 have h2 : 0 ≤ z / B := Int.ediv_nonneg h0 (by omega)
 rw [Int.tdiv_eq_ediv_of_nonneg h0]
 exact ⟨Int.tmod_eq_emod_of_nonneg h0, w64 (by omega) (by omega)⟩
theorem plus_in (x y : List Int) (hx : Sv.Digs 1000000000 x) (hy : Sv.Digs 1000000000 y) (hl : y.length ≤ x.length) (hb : x.length ≤ 1000000000000) (n : Nat) : ∀ (i : Nat) (out : List Int) (c : Int), i + n = x.length + 1 → out.length = x.length + 1 → Sv.Digs 1000000000 out → (∀ p, i ≤ p → out.getD p 0 = 0) → 0 ≤ c ∧ c ≤ 1 →
  Sv.vl 1000000000 out + Sv.pw 1000000000 i * c = Sv.vl 1000000000 (x.take i) + Sv.vl 1000000000 (y.take i) →
  Ev (fun k => bIplus0.l0 k x y out c (out.length : Int) i) (mag (Sv.vl 1000000000 x + Sv.vl 1000000000 y).toNat) := by
 induction n with
 | zero =>
  intro i out c hi ho hd hz hc hv
  refine Ev.succ ?_
  simp only [bIplus0.l0]
  refine Ev.neg (by omega) (Ev.bind (bi_trim out (by omega)) (Ev.of ?_))
  have h1 := Sv.v_lt (B := 1000000000) (by decide) hd
  have h2 := Sv.vl_nonneg (B := 1000000000) (by decide) hd
  have h3 := Sv.vl_nonneg (B := 1000000000) (by decide) hx
  have h4 := Sv.vl_nonneg (B := 1000000000) (by decide) hy
  have h5 := Sv.v_lt (B := 1000000000) (by decide) hx
  have h6 := Sv.v_lt (B := 1000000000) (by decide) hy
  rw [List.take_of_length_le (by omega), List.take_of_length_le (by omega)] at hv
  have e : Sv.pw 1000000000 (x.length + 1) = 1000000000 * Sv.pw 1000000000 x.length := Sv.pw_s _ _
  have hm : Sv.pw 1000000000 y.length ≤ Sv.pw 1000000000 x.length := Sv.pw_mono (by decide) hl
  have hi' : i = x.length + 1 := by omega
  have hc0 : c = 0 := by
   rw [hi', e] at hv
   have hp := Sv.pw_pos (B := 1000000000) (by decide) x.length
   rcases (show c = 0 ∨ c = 1 by omega) with h | h
   ·exact h
   ·subst h; omega
  subst hc0
  rw [Int.mul_zero, Int.add_zero] at hv
  congr 1
  exact cut_mag hd (by omega)
 | succ n ih =>
  intro i out c hi ho hd hz hc hv
  refine Ev.succ ?_
  have dx := Sv.g_digs (B := 1000000000) (by decide) hx i
  have dy := Sv.g_digs (B := 1000000000) (by decide) hy i
  have step : ∀ z : Int, z = c + x.getD i 0 + y.getD i 0 → Ev (fun k => bIplus0.l0 k x y (out.set i (z % 1000000000)) (z / 1000000000) (out.length : Int) ((i + 1 : Nat) : Int)) (mag (Sv.vl 1000000000 x + Sv.vl 1000000000 y).toNat) := by
   intro z hzz
   have := ih (i + 1) (out.set i (z % 1000000000)) (z / 1000000000) (by omega) (by simpa using ho) (Sv.d_set hd _ (by omega) (by omega)) (fun p hp => by rw [Sv.g_set _ _ _ _ (by omega)]; exact hz p (by omega)) (by omega) ?_
   ·rw [List.length_set] at this; exact this
   ·rw [Sv.v_set _ _ _ _ (by omega), hz _ (Nat.le_refl _), Sv.v_take, Sv.v_take, Sv.pw_s]
    exact add_inv hv hzz
  simp only [bIplus0.l0]
  rw [rd_nat, rd_nat, Int.toNat_natCast, (w64n (by omega) (by omega) : wrap64 ((i : Int) + 1) = ((i + 1 : Nat) : Int))]
  refine Ev.pos (by omega) ?_
  by_cases h1 : i < x.length
  ·refine Ev.pos (by omega) (Ev.pos (by omega) ?_)
   by_cases h2 : i < y.length
   ·refine Ev.pos (by omega) (Ev.pos (by omega) ?_)
    rw [(w64 (by omega) (by omega) : wrap64 (c + x.getD i 0) = c + x.getD i 0), (w64 (by omega) (by omega) : wrap64 (c + x.getD i 0 + y.getD i 0) = c + x.getD i 0 + y.getD i 0)]
    obtain ⟨e1, e2⟩ := dm (z := c + x.getD i 0 + y.getD i 0) (B := 1000000000) (by omega) (by omega) (by omega)
    rw [e1, e2]
    exact step _ rfl
   ·have hy0 := Sv.g_ge y i (by omega)
    refine Ev.neg (by omega) (Ev.pos (by omega) ?_)
    rw [(w64 (by omega) (by omega) : wrap64 (c + x.getD i 0) = c + x.getD i 0)]
    obtain ⟨e1, e2⟩ := dm (z := c + x.getD i 0) (B := 1000000000) (by omega) (by omega) (by omega)
    rw [e1, e2]
    exact step _ (by omega)
  ·have hx0 := Sv.g_ge x i (by omega)
   have hy0 := Sv.g_ge y i (by omega)
   refine Ev.neg (by omega) (Ev.neg (by omega) (Ev.pos (by omega) (Ev.pos (by omega) ?_)))
   obtain ⟨e1, e2⟩ := dm (z := c) (B := 1000000000) (by omega) (by omega) (by omega)
   rw [e1, e2]
   exact step _ (by omega)
theorem bi_plus0 (x y : List Int) (hx : Sv.Digs 1000000000 x) (hy : Sv.Digs 1000000000 y) (hl : y.length ≤ x.length) (hb : x.length ≤ 1000000000000) : Ev (fun k => bIplus0.f k x y) (mag (Sv.vl 1000000000 x + Sv.vl 1000000000 y).toNat) := by
 unfold bIplus0.f
 rw [(w64n (by omega) (by omega) : wrap64 ((x.length : Int) + 1) = ((x.length + 1 : Nat) : Int))]
 refine Ev.pos (by omega) (Ev.pos (by omega) (Ev.bs rfl ?_))
 rw [Int.toNat_natCast]
 refine plus_in x y hx hy hl hb _ 0 _ 0 (Nat.zero_add _) (by simp) (Sv.d_rep (by decide) _) (fun p _ => Sv.g_rep _ _) (by omega) ?_
 rw [Sv.vl_replicate]
 simp [Sv.vl]
theorem bi_plus (m n : Nat) (hm : (mag m).length ≤ 1000000000000) (hn : (mag n).length ≤ 1000000000000) : Ev (fun k => bIplus.f k (mag m) (mag n)) (mag (m + n)) := by
 unfold bIplus.f
 by_cases h : (mag m).length < (mag n).length
 ·refine Ev.pos h ((bi_plus0 _ _ (mag_digs n) (mag_digs m) (by omega) hn).eq ?_)
  rw [vl_mag, vl_mag]; congr 1; omega
 ·refine Ev.neg h ((bi_plus0 _ _ (mag_digs m) (mag_digs n) (by omega) hm).eq ?_)
  rw [vl_mag, vl_mag]; congr 1
theorem minus_in (x y : List Int) (hx : Sv.Digs 1000000000 x) (hy : Sv.Digs 1000000000 y) (hl : y.length ≤ x.length) (hb : x.length ≤ 1000000000000) (hle : Sv.vl 1000000000 y ≤ Sv.vl 1000000000 x) (n : Nat) : ∀ (i : Nat) (out : List Int) (c : Int), i + n = x.length → out.length = x.length → Sv.Digs 1000000000 out → (∀ p, i ≤ p → out.getD p 0 = 0) → c = 0 ∨ c = 1 →
  Sv.vl 1000000000 out + Sv.vl 1000000000 (y.take i) = Sv.vl 1000000000 (x.take i) + Sv.pw 1000000000 i * c →
  Ev (fun k => bIminus.l0 k x y out c (out.length : Int) i) (mag (Sv.vl 1000000000 x - Sv.vl 1000000000 y).toNat) := by
 induction n with
 | zero =>
  intro i out c hi ho hd hz hc hv
  refine Ev.succ ?_
  simp only [bIminus.l0]
  refine Ev.neg (by omega) (Ev.bind (bi_trim out (by omega)) (Ev.of ?_))
  have h1 := Sv.v_lt (B := 1000000000) (by decide) hd
  rw [List.take_of_length_le (by omega), List.take_of_length_le (by omega)] at hv
  have hi' : i = x.length := by omega
  have hc0 : c = 0 := by
   rcases hc with h | h
   ·exact h
   ·subst h; rw [hi', Int.mul_one] at hv; rw [ho] at h1; omega
  subst hc0
  rw [Int.mul_zero, Int.add_zero] at hv
  congr 1
  exact cut_mag hd (by omega)
 | succ n ih =>
  intro i out c hi ho hd hz hc hv
  refine Ev.succ ?_
  have dx := Sv.g_digs (B := 1000000000) (by decide) hx i
  have dy := Sv.g_digs (B := 1000000000) (by decide) hy i
  have step : ∀ z b : Int, b = 0 ∨ b = 1 → 0 ≤ z → z < 1000000000 → z = x.getD i 0 - c - y.getD i 0 + 1000000000 * b → Ev (fun k => bIminus.l0 k x y (out.set i z) b (out.length : Int) ((i + 1 : Nat) : Int)) (mag (Sv.vl 1000000000 x - Sv.vl 1000000000 y).toNat) := by
   intro z b hb' h0 h1 hzz
   have := ih (i + 1) (out.set i z) b (by omega) (by simpa using ho) (Sv.d_set hd _ h0 h1) (fun p hp => by rw [Sv.g_set _ _ _ _ (by omega)]; exact hz p (by omega)) hb' ?_
   ·rw [List.length_set] at this; exact this
   ·rw [Sv.v_set _ _ _ _ (by omega), hz _ (Nat.le_refl _), Sv.v_take, Sv.v_take, Sv.pw_s]
    subst hzz
    generalize Sv.pw 1000000000 i = I at *
    generalize x.getD i 0 = xx at *
    generalize y.getD i 0 = yy at *
    clear h0 h1 hb' ih
    grind
  simp only [bIminus.l0]
  rw [rd_nat, rd_nat, Int.toNat_natCast, (w64n (by omega) (by omega) : wrap64 ((i : Int) + 1) = ((i + 1 : Nat) : Int)), (w64 (by omega) (by omega) : wrap64 (x.getD i 0 - c) = x.getD i 0 - c), (w64 (by omega) (by omega) : wrap64 (x.getD i 0 - c - y.getD i 0) = x.getD i 0 - c - y.getD i 0), (w64 (by omega) (by omega) : wrap64 (x.getD i 0 - c - y.getD i 0 + 1000000000) = x.getD i 0 - c - y.getD i 0 + 1000000000), (w64 (by omega) (by omega) : wrap64 (x.getD i 0 - c + 1000000000) = x.getD i 0 - c + 1000000000)]
  refine Ev.pos (by omega) (Ev.pos (by omega) (Ev.pos (by omega) ?_))
  by_cases h2 : i < y.length
  ·refine Ev.pos (by omega) ?_
   by_cases h3 : x.getD i 0 - c - y.getD i 0 < 0
   ·exact Ev.pos h3 (Ev.pos (by omega) (step _ 1 (.inr rfl) (by omega) (by omega) (by omega)))
   ·exact Ev.neg h3 (Ev.pos (by omega) (step _ 0 (.inl rfl) (by omega) (by omega) (by omega)))
  ·have hy0 := Sv.g_ge y i (by omega)
   refine Ev.neg (by omega) ?_
   by_cases h3 : x.getD i 0 - c < 0
   ·exact Ev.pos h3 (Ev.pos (by omega) (step _ 1 (.inr rfl) (by omega) (by omega) (by omega)))
   ·exact Ev.neg h3 (Ev.pos (by omega) (step _ 0 (.inl rfl) (by omega) (by omega) (by omega)))
theorem bi_minus (m n : Nat) (hm : (mag m).length ≤ 1000000000000) (h : n ≤ m) : Ev (fun k => bIminus.f k (mag m) (mag n)) (mag (m - n)) := by
 unfold bIminus.f
 refine Ev.pos (by omega) (Ev.pos (by omega) (Ev.bs rfl ?_))
 rw [Int.toNat_natCast]
 have := minus_in (mag m) (mag n) (mag_digs m) (mag_digs n) (mag_mono h) hm (by rw [vl_mag, vl_mag]; omega) _ 0 (List.replicate (mag m).length 0) 0 (Nat.zero_add _) (by simp) (Sv.d_rep (by decide) _) (fun p _ => Sv.g_rep _ _) (.inl rfl) (by rw [Sv.vl_replicate]; simp [Sv.vl])
 refine this.eq ?_
 rw [vl_mag, vl_mag]
 congr 1
 omega
set_option linter.unusedVariables false
set_option linter.unusedSimpArgs false
theorem bi_times_in (a b : List Int) (ha : Sv.Digs 1000000000 a) (hb : Sv.Digs 1000000000 b) (hl : a.length + b.length ≤ 10000000000000) (R : List Int) (i : Nat) (hi : i < a.length)
  (next : ∀ out : List Int, out.length = a.length + b.length → Sv.Digs 1000000000 out → (∀ p, i + 1 + b.length ≤ p → out.getD p 0 = 0) → Sv.vl 1000000000 out = Sv.vl 1000000000 (a.take (i + 1)) * Sv.vl 1000000000 b → Ev (fun k => bItimes.l0 k b out a (a.length : Int) ((i + 1 : Nat) : Int)) R) (q : Nat) :
  ∀ (j : Nat) (out : List Int) (c : Int), j + q = b.length → out.length = a.length + b.length → Sv.Digs 1000000000 out → (∀ p, i + b.length ≤ p → out.getD p 0 = 0) → 0 ≤ c ∧ c < 1000000000 →
   Sv.vl 1000000000 out + Sv.pw 1000000000 i * Sv.pw 1000000000 j * c = Sv.vl 1000000000 (a.take i) * Sv.vl 1000000000 b + Sv.pw 1000000000 i * (a.getD i 0 * Sv.vl 1000000000 (b.take j)) →
   Ev (fun k => bItimes.l1 k b out i (a.getD i 0) c a (a.length : Int) i b (b.length : Int) j) R := by
 induction q with
 | zero =>
  intro j out c hj ho hd hz hc hv
  have hjb : j = b.length := by omega
  subst hjb
  rw [List.take_length] at hv
  refine Ev.succ ?_
  simp only [bItimes.l1]
  rw [(w64n (by omega) (by omega) : wrap64 ((i : Int) + (b.length : Int)) = ((i + b.length : Nat) : Int)), (w64n (by omega) (by omega) : wrap64 ((i : Int) + 1) = ((i + 1 : Nat) : Int)), Int.toNat_natCast]
  refine Ev.neg (by omega) (Ev.pos (by omega) (Ev.pos (by omega) ?_))
  refine next _ (by simp [ho]) (Sv.d_set hd _ hc.1 hc.2) (fun p hp => ?_) ?_
  ·rw [Sv.g_set _ _ _ _ (by omega)]; exact hz p (by omega)
  ·rw [Sv.v_set _ _ _ _ (by omega), hz _ (Nat.le_refl _), Sv.v_take, Sv.pw_add]
   generalize Sv.vl 1000000000 b = vb at *
   generalize a.getD i 0 = x at *
   generalize Sv.vl 1000000000 (List.take i a) = va at *
   grind
 | succ q ih =>
  intro j out c hj ho hd hz hc hv
  refine Ev.succ ?_
  have da := Sv.g_digs (by omega) ha i
  have db := Sv.g_digs (by omega) hb j
  have dz := Sv.g_digs (by omega) hd (i + j)
  obtain ⟨-, -, -, -, -, m0, m1, m2, m3⟩ := Sv.mul_step (by omega) da db dz hc
  simp only [bItimes.l1]
  rw [(w64n (by omega) (by omega) : wrap64 ((i : Int) + (j : Int)) = ((i + j : Nat) : Int)), (w64n (by omega) (by omega) : wrap64 ((j : Int) + 1) = ((j + 1 : Nat) : Int)), rd_nat, rd_nat, Int.toNat_natCast]
  refine Ev.pos (by omega) (Ev.pos (by omega) (Ev.pos (by omega) (Ev.pos (by omega) (Ev.pos (by omega) ?_))))
  have N := ih (j + 1) (out.set (i + j) ((c + (out.getD (i + j) 0 + a.getD i 0 * b.getD j 0)) % 1000000000)) ((c + (out.getD (i + j) 0 + a.getD i 0 * b.getD j 0)) / 1000000000) (by omega) (by simp [ho]) (Sv.d_set hd _ m0 m1) (fun p hp => by rw [Sv.g_set _ _ _ _ (by omega)]; exact hz p hp) ⟨m2, m3⟩ (by
   rw [Sv.v_set _ _ _ _ (by omega), Sv.v_take, Sv.pw_s 1000000000 j, Sv.pw_add]
   have := Sv.mul_inv (B := 1000000000) (z := out.getD (i + j) 0) (y := b.getD j 0) hv
   rw [← this, Int.mul_left_comm 1000000000 (Sv.pw 1000000000 i)])
  obtain ⟨v1, v2, v3, e1, e2, v4⟩ := wmul (B := 1000000000) (by decide) (by decide) da db dz hc
  rw [v1, v2, v3, e1, e2, v4]
  exact N
theorem bi_times_ev (a b : List Int) (ha : Sv.Digs 1000000000 a) (hb : Sv.Digs 1000000000 b) (hl : a.length + b.length ≤ 10000000000000) (n : Nat) : ∀ (i : Nat) (out : List Int), i + n = a.length → out.length = a.length + b.length → Sv.Digs 1000000000 out → (∀ p, i + b.length ≤ p → out.getD p 0 = 0) → Sv.vl 1000000000 out = Sv.vl 1000000000 (a.take i) * Sv.vl 1000000000 b →
  Ev (fun k => bItimes.l0 k b out a (a.length : Int) i) (mag (Sv.vl 1000000000 a * Sv.vl 1000000000 b).toNat) := by
 induction n with
 | zero =>
  intro i out hi ho hd hz hv
  refine Ev.succ ?_
  simp only [bItimes.l0]
  refine Ev.neg (by omega) (Ev.bind (bi_trim out (by omega)) (Ev.of ?_))
  congr 1
  rw [List.take_of_length_le (by omega)] at hv
  have h0 := Int.mul_nonneg (Sv.vl_nonneg (B := 1000000000) (by decide) ha) (Sv.vl_nonneg (B := 1000000000) (by decide) hb)
  refine cut_mag hd ?_
  rw [hv, Int.toNat_of_nonneg h0]
 | succ n ih =>
  intro i out hi ho hd hz hv
  refine Ev.succ ?_
  simp only [bItimes.l0]
  rw [rd_nat]
  refine Ev.pos (by omega) (Ev.pos (by omega) (Ev.pos (by omega) ?_))
  refine bi_times_in a b ha hb hl _ i (by omega) (fun out h1 h2 h3 h4 => ih (i + 1) out (by omega) h1 h2 h3 h4) b.length 0 out 0 (by omega) ho hd hz (by omega) ?_
  simp [hv, Sv.vl, Sv.pw_zero]
theorem bi_times (m n : Nat) (hl : (mag m).length + (mag n).length ≤ 10000000000000) : Ev (fun k => bItimes.f k (mag m) (mag n)) (mag (m * n)) := by
 unfold bItimes.f
 rw [(w64n (by omega) (by omega) : wrap64 (((mag m).length : Int) + ((mag n).length : Int)) = (((mag m).length + (mag n).length : Nat) : Int)), Int.toNat_natCast]
 refine Ev.pos (by omega) (Ev.pos (by omega) ?_)
 refine (bi_times_ev _ _ (mag_digs m) (mag_digs n) hl (mag m).length 0 _ (by omega) (by simp) (Sv.d_rep (by omega) _) (fun p hp => Sv.g_rep _ _) ?_).eq ?_
 ·rw [Sv.vl_replicate]; simp [Sv.vl]
 ·rw [vl_mag, vl_mag, ← Int.natCast_mul, Int.toNat_natCast]
theorem ordAt_sign (x y : List Int) (hx : Sv.Digs 1000000000 x) (hy : Sv.Digs 1000000000 y) (n : Nat) : (ordAt x y n < 0 ↔ Sv.vl 1000000000 (x.take n) < Sv.vl 1000000000 (y.take n)) ∧ (ordAt x y n = 0 ↔ Sv.vl 1000000000 (x.take n) = Sv.vl 1000000000 (y.take n)) := by
 induction n with
 | zero => simp [ordAt, Sv.vl]
 | succ n ih =>
  have dx := Sv.g_digs (by omega) hx n
  have dy := Sv.g_digs (by omega) hy n
  rw [Sv.v_take, Sv.v_take]
  unfold ordAt
  rw [rd_nat, rd_nat]
  have lx : Sv.vl 1000000000 (x.take n) < Sv.pw 1000000000 n := by
   have h1 := Sv.v_lt (B := 1000000000) (by decide) (Sv.d_take hx n)
   have h2 := Sv.pw_mono (B := 1000000000) (by decide) (show (x.take n).length ≤ n by simp; omega)
   omega
  have ly : Sv.vl 1000000000 (y.take n) < Sv.pw 1000000000 n := by
   have h1 := Sv.v_lt (B := 1000000000) (by decide) (Sv.d_take hy n)
   have h2 := Sv.pw_mono (B := 1000000000) (by decide) (show (y.take n).length ≤ n by simp; omega)
   omega
  have x0 := Sv.vl_nonneg (B := 1000000000) (by decide) (Sv.d_take hx n)
  have y0 := Sv.vl_nonneg (B := 1000000000) (by decide) (Sv.d_take hy n)
  generalize Sv.vl 1000000000 (x.take n) = X at *
  generalize Sv.vl 1000000000 (y.take n) = Y at *
  generalize x.getD n 0 = a at *
  generalize y.getD n 0 = b at *
  generalize Sv.pw 1000000000 n = P at *
  by_cases h : a = b
  ·subst h
   rw [if_pos rfl]
   exact ⟨by rw [ih.1]; omega, by rw [ih.2]; omega⟩
  ·rw [if_neg h]
   by_cases hl : a < b
   ·have := Int.mul_le_mul_of_nonneg_left (show a + 1 ≤ b by omega) (show 0 ≤ P by omega)
    rw [Int.mul_add, Int.mul_one] at this
    exact ⟨⟨fun _ => by omega, fun _ => by omega⟩, ⟨fun _ => by omega, fun _ => by omega⟩⟩
   ·have := Int.mul_le_mul_of_nonneg_left (show b + 1 ≤ a by omega) (show 0 ≤ P by omega)
    rw [Int.mul_add, Int.mul_one] at this
    exact ⟨⟨fun _ => by omega, fun _ => by omega⟩, ⟨fun _ => by omega, fun _ => by omega⟩⟩
theorem mag_lt {m n : Nat} (h : (mag m).length < (mag n).length) : m < n := by
 rcases Nat.lt_or_ge m n with h1 | h1
 ·exact h1
 ·have := mag_mono h1; omega
theorem bi_order (m n : Nat) (hm : (mag m).length ≤ 1000000000000) (hn : (mag n).length ≤ 1000000000000) : ∃ t, bIorder.f (mag m) (mag n) = some t ∧ (t < 0 ↔ m < n) := by
 unfold bIorder.f
 refine ⟨_, if_pos ⟨mag_digs m, mag_digs n, by omega, by omega⟩, ?_⟩
 by_cases h : (mag m).length = (mag n).length
 ·rw [if_pos h, (ordAt_sign _ _ (mag_digs m) (mag_digs n) _).1, List.take_length, h, List.take_length, vl_mag, vl_mag]
  omega
 ·rw [if_neg h]
  constructor
  ·intro h2; exact mag_lt (by omega)
  ·intro h2; have := mag_mono (show m ≤ n by omega); omega
set_option linter.unusedVariables false
set_option linter.unusedSimpArgs false
theorem pw9 : Sv.pw 10 9 = 1000000000 := by rw [Sv.pw_eq]; rfl
theorem pw9k (k : Nat) : Sv.pw 10 (9 * k) = Sv.pw 1000000000 k := by
 induction k with
 | zero => rw [Nat.mul_zero, Sv.pw_zero, Sv.pw_zero]
 | succ k ih => rw [show 9 * (k + 1) = 9 + 9 * k by omega, Sv.pw_add, ih, pw9, Sv.pw_s]
theorem gk_len (ds : List Int) (k : Nat) : (gk ds k).length = k := by
 induction k with
 | zero => rfl
 | succ k ih => rw [gk, List.length_append, ih]; rfl
theorem gk_digs (ds : List Int) (h : Sv.Digs 10 ds) (k : Nat) : Sv.Digs 1000000000 (gk ds k) := by
 induction k with
 | zero => exact Sv.Digs.nil _
 | succ k ih =>
  rw [gk]
  have hd := Sv.d_take (Sv.d_drop h (9 * k)) 9
  have h0 := Sv.vl_nonneg (B := 10) (by decide) hd
  have h1 := Sv.v_lt (B := 10) (by decide) hd
  have h2 := Sv.pw_mono (B := 10) (by decide) (show ((ds.drop (9 * k)).take 9).length ≤ 9 by simp; omega)
  rw [pw9] at h2
  exact ih.append (Sv.Digs.cons h0 (by omega) (Sv.Digs.nil _))
theorem gk_vl (ds : List Int) (k : Nat) (hk : 9 * k ≤ ds.length + 8) : Sv.vl 1000000000 (gk ds k) = Sv.vl 10 (ds.take (9 * k)) := by
 induction k with
 | zero => simp [gk, Sv.vl]
 | succ k ih =>
  rw [gk, Sv.v_app, ih (by omega), gk_len, Sv.vl_cons, Sv.vl_nil, Int.mul_zero, Int.add_zero]
  have : ds.take (9 * (k + 1)) = ds.take (9 * k) ++ (ds.drop (9 * k)).take 9 := by
   rw [show 9 * (k + 1) = 9 * k + 9 by omega, List.take_add]
  rw [this, Sv.v_app, List.length_take, Nat.min_eq_left (by omega), pw9k]
theorem AllD_txtN (n : Nat) : AllD (Sv.txtN n) := fun c hc => txtN_mem hc
theorem dl_digs {l : List UInt8} (h : AllD l) : Sv.Digs 10 (l.reverse.map Sv.chd) := by
 intro d hd
 obtain ⟨c, hc, rfl⟩ := List.mem_map.1 hd
 have := h c (List.mem_reverse.1 hc)
 unfold Sv.chd
 omega
theorem collect_txtN (n : Nat) (h : Sv.nd n ≤ 4294967296) : ∃ l, slices_Collect_int.f ⟨(Sv.txtN n).toArray⟩ = some l ∧ Sv.Digs 1000000000 l ∧ Sv.vl 1000000000 l = n ∧ l.length ≤ 4294967296 := by
 unfold slices_Collect_int.f
 have hl : (Sv.txtN n).length = Sv.nd n := Sv.txtN_length n
 rw [ba_mk, mk_size, hl]
 refine ⟨_, if_pos ⟨AllD_txtN n, h⟩, ?_, ?_, ?_⟩
 ·refine gk_digs _ ?_ _
  unfold dl
  rw [ba_mk]
  exact dl_digs (AllD_txtN n)
 ·have e : dl ⟨(Sv.txtN n).toArray⟩ = (Sv.txtN n).reverse.map Sv.chd := by unfold dl; rw [ba_mk]
  have el : (dl ⟨(Sv.txtN n).toArray⟩).length = Sv.nd n := by rw [e]; simp [hl]
  rw [gk_vl _ _ (by omega), List.take_of_length_le (by omega), e]
  exact Sv.valN_txtN n
 ·rw [gk_len]; omega
theorem bi_read (n : Int) (h : Sv.nd n ≤ 4294967296) : Ev (fun k => bIread.f k (Sv.txt n)) (decide (n < 0), mag n.natAbs) := by
 unfold bIread.f
 refine Ev.bs (cut45 _) ?_
 have key : ∀ b : Bool, Ev (fun k => (slices_Collect_int.f ⟨(Sv.txtN n.natAbs).toArray⟩).bind fun t118 => ((bItrim.f k t118).bind fun t121 => (some (b, t121)))) (b, mag n.natAbs) := by
  intro b
  obtain ⟨l, h1, h2, h3, h4⟩ := collect_txtN n.natAbs (by rw [Sv.nd_natAbs]; exact h)
  refine Ev.bs h1 (Ev.bind (bi_trim l (by omega)) (Ev.of ?_))
  rw [cut_mag h2 h3]
 by_cases hn : n < 0
 ·rw [if_pos ((head45 n).2 hn), decide_eq_true hn]
  have e : (Sv.txt n).data.toList.drop 1 = Sv.txtN n.natAbs := by
   show (Sv.txtL n).drop 1 = _
   unfold Sv.txtL
   rw [if_pos hn]; rfl
  rw [e]
  exact key true
 ·rw [if_neg (fun e => hn ((head45 n).1 e)), decide_eq_false hn]
  have e : Sv.txt n = ⟨(Sv.txtN n.natAbs).toArray⟩ := by
   unfold Sv.txt Sv.txtL
   rw [if_neg hn]
  rw [e]
  exact key false
theorem ungrp_two (x : Int) {l : List Int} (h : l ≠ []) : Sv.ungrp (x :: l) = Sv.pad9 x ++ Sv.ungrp l := by
 cases l with
 | nil => exact absurd rfl h
 | cons y l => rw [Sv.ungrp]; simp
theorem txtL_dg {v : Int} (h : 0 < v) : Sv.txtL v = (Sv.dg 10 v.toNat).reverse.map Sv.dch := by
 unfold Sv.txtL Sv.txtN
 rw [if_neg (by omega), if_neg (by omega), show v.natAbs = v.toNat by omega]
theorem rep_list (k : Nat) : Lib.repeatL [48] k = List.replicate k 48 := by
 induction k with
 | zero => rfl
 | succ k ih => rw [Lib.repeatL, ih]; rfl
theorem dch0 : Sv.dch 0 = 48 := rfl
theorem pad_text {v : Int} (h0 : 0 ≤ v) (h1 : v < 1000000000) : Lib.repeatL [48] (9 - (Sv.txt v).size) ++ Sv.txtL v = (Sv.pad9 v).reverse.map Sv.dch := by
 unfold Sv.pad9
 rw [List.reverse_append, List.map_append, List.reverse_replicate, List.map_replicate, dch0, rep_list]
 have hs : (Sv.txt v).size = Sv.nd v := by rw [Sv.txt_size, if_neg (by omega)]; rfl
 rw [hs]
 by_cases hz : v = 0
 ·subst hz
  rw [show ((0 : Int).toNat) = 0 from rfl, Sv.dg_zero]
  rfl
 ·rw [← txtL_dg (show 0 < v by omega)]
  congr 2
  unfold Sv.nd
  rw [if_neg hz, show v.natAbs = v.toNat by omega]
theorem text_flat (zs : List Int) (hd : Sv.Digs 1000000000 zs) (hz : Sv.NoZ zs) (k : Nat) : k < zs.length → (bk zs (k + 1)).flatMap (fun x => tstep zs.length x.1.1 x.1.2) = (Sv.ungrp (zs.drop (zs.length - 1 - k))).reverse.map Sv.dch := by
 induction k with
 | zero =>
  intro hk
  have hne : zs ≠ [] := List.length_pos_iff.1 hk
  have hlt : zs.length - 1 < zs.length := by omega
  have ed : zs.drop (zs.length - 1 - 0) = [zs[zs.length - 1]] := by
   rw [Nat.sub_zero, List.drop_eq_getElem_cons hlt, List.drop_of_length_le (by omega)]
  have htop : 0 < zs[zs.length - 1] := by
   have h1 := hd _ (List.getElem_mem hlt)
   have h2 : zs[zs.length - 1] ≠ 0 := by
    intro e
    apply hz
    rw [List.getLast?_eq_getElem?, List.getElem?_eq_getElem hlt, e]
   omega
  rw [ed]
  unfold bk
  rw [dif_pos hk]
  unfold bk bkx
  simp only [List.nil_append, List.flatMap_cons, List.flatMap_nil, List.append_nil]
  rw [show ((zs.length : Int) - 1 - ((0 : Nat) : Int)) = ((zs.length - 1 : Nat) : Int) by omega, rd_get _ _ hlt]
  unfold tstep
  rw [if_neg (by omega), txtL_dg htop]
  rfl
 | succ k ih =>
  intro hk
  have hlt : zs.length - 1 - (k + 1) < zs.length := by omega
  have ed : zs.drop (zs.length - 1 - (k + 1)) = zs[zs.length - 1 - (k + 1)] :: zs.drop (zs.length - 1 - k) := by
   rw [List.drop_eq_getElem_cons hlt]
   congr 2
   omega
  have hv := hd _ (List.getElem_mem hlt)
  rw [ed, ungrp_two _ (by intro e; have := congrArg List.length e; simp at this; omega), List.reverse_append, List.map_append, ← ih (by omega), ← pad_text hv.1 hv.2]
  rw [bk, dif_pos hk, List.flatMap_append]
  congr 1
  unfold bkx
  simp only [List.flatMap_cons, List.flatMap_nil, List.append_nil]
  rw [show ((zs.length : Int) - 1 - ((k + 1 : Nat) : Int)) = ((zs.length - 1 - (k + 1) : Nat) : Int) by omega, rd_get _ _ hlt]
  unfold tstep
  rw [if_pos (by omega)]
theorem bi_text (neg : Bool) (N : Nat) (h : (mag N).length ≤ 1000000000000) : bInumber_text.f neg (mag N) = some (Sv.txt (if neg then -(N : Int) else N)) := by
 unfold bInumber_text.f
 rw [if_pos ⟨mag_digs N, by omega⟩]
 congr 1
 by_cases h0 : N = 0
 ·subst h0
  rw [mag_zero, if_pos rfl, ← txt0]
  congr 1
  cases neg <;> rfl
 ·have hne := mag_ne (show 0 < N by omega)
  have hl : 0 < (mag N).length := List.length_pos_iff.2 hne
  rw [if_neg hne]
  unfold Sv.txt
  congr 2
  unfold tacc
  have := text_flat (mag N) (mag_digs N) (mag_noz N) ((mag N).length - 1) (by omega)
  rw [show (mag N).length - 1 + 1 = (mag N).length by omega, show (mag N).length - 1 - ((mag N).length - 1) = 0 by omega, List.drop_zero, Sv.ungrp_eq (mag_digs N) (mag_noz N)] at this
  rw [this]
  have hv : (Sv.vl Sv.LB (mag N)).toNat = N := by
   have := vl_mag N
   rw [show Sv.vl Sv.LB (mag N) = N from this]; exact Int.toNat_natCast N
  rw [hv]
  unfold Sv.txtL Sv.txtN
  cases neg
  ·simp only [Bool.false_eq_true, if_false, List.nil_append]
   rw [if_neg (by omega), if_neg (by omega), Int.natAbs_natCast]
  ·simp only [if_true]
   rw [if_pos (by omega), if_neg (by omega), Int.natAbs_neg, Int.natAbs_natCast]
   rfl
theorem ungrp_len {l : List Int} (hd : Sv.Digs 1000000000 l) (n : Nat) : l.length = n + 1 → (Sv.ungrp l).length = 9 * n + (Sv.dg 10 (l.getD n 0).toNat).length := by
 induction n generalizing l with
 | zero =>
  intro h
  obtain ⟨x, rfl⟩ := List.length_eq_one_iff.1 h
  rw [Sv.ungrp]; simp
 | succ n ih =>
  intro h
  cases l with
  | nil => simp at h
  | cons x l =>
   have hl : l.length = n + 1 := by simpa using h
   rw [ungrp_two _ (by intro e; rw [e] at hl; simp at hl), List.length_append, Sv.pad9_length hd.head.2, ih hd.tail hl, List.getD_cons_succ]
   omega
theorem bi_size (neg : Bool) (N : Nat) (h : (mag N).length ≤ 1000000000000) : bInumber_size.f neg (mag N) = some (if N = 0 then 0 else (Sv.nd N : Int)) := by
 unfold bInumber_size.f
 by_cases h0 : N = 0
 ·subst h0; rw [mag_zero]; rfl
 ·have hne := mag_ne (show 0 < N by omega)
  have hl : 0 < (mag N).length := List.length_pos_iff.2 hne
  have hlt : (mag N).length - 1 < (mag N).length := by omega
  obtain ⟨n, hn⟩ : ∃ n, (mag N).length = n + 1 := ⟨(mag N).length - 1, by omega⟩
  have hd := Sv.g_digs (B := 1000000000) (by decide) (mag_digs N) n
  have htop : 0 < (mag N).getD n 0 := by
   have h2 : (mag N).getD n 0 ≠ 0 := by
    intro e
    apply mag_noz N
    rw [List.getLast?_eq_getElem?, hn, Nat.add_sub_cancel, List.getElem?_eq_getElem (by omega)]
    simp only [List.getD, List.getElem?_eq_getElem (show n < (mag N).length by omega), Option.getD_some] at e
    rw [e]
   omega
  have hu := ungrp_len (mag_digs N) n hn
  rw [Sv.ungrp_eq (mag_digs N) (mag_noz N), show (Sv.vl Sv.LB (mag N)).toNat = N from by rw [show Sv.vl Sv.LB (mag N) = N from vl_mag N]; exact Int.toNat_natCast N] at hu
  have hnd : Sv.nd N = (Sv.dg 10 N).length := by unfold Sv.nd; rw [if_neg (by omega), Int.natAbs_natCast]
  have hsz : (Sv.txt ((mag N).getD n 0)).size = (Sv.dg 10 ((mag N).getD n 0).toNat).length := by
   rw [Sv.txt_size, if_neg (by omega)]
   unfold Sv.nd
   rw [if_neg (by omega), show ((mag N).getD n 0).natAbs = ((mag N).getD n 0).toNat by omega]; rfl
  have hs9 : (Sv.dg 10 ((mag N).getD n 0).toNat).length ≤ 9 := Sv.dg_length_le (by omega) (by omega)
  rw [if_neg h0, hn, if_neg (by omega)]
  rw [(w64n (by omega) (by omega) : wrap64 (((n + 1 : Nat) : Int) - 1) = (n : Int)), if_pos (by omega), if_pos (by omega), rd_nat]
  unfold strconv_Itoa.f
  rw [if_pos (by omega), Option.bind_some, hsz]
  rw [(w64 (by omega) (by omega) : wrap64 ((n : Int) * 9) = (n : Int) * 9), (w64 (by omega) (by omega) : wrap64 ((n : Int) * 9 + ((Sv.dg 10 ((mag N).getD n 0).toNat).length : Int)) = (n : Int) * 9 + ((Sv.dg 10 ((mag N).getD n 0).toNat).length : Int))]
  congr 1
  omega
def lim (n : Int) : ByteArray × Int := if Sv.nd n ≤ 4096 then (Sv.txt n, 0) else (⟨#[]⟩, 10)
theorem bi_written (neg : Bool) (N : Nat) (h : (mag N).length ≤ 1000000000000) : bIwritten.f neg (mag N) = some (lim (if neg then -(N : Int) else N)) := by
 unfold bIwritten.f
 rw [bi_size neg N h, Option.bind_some]
 have hnd : Sv.nd (if neg = true then -(N : Int) else N) = Sv.nd N := by cases neg <;> simp [Sv.nd_neg]
 unfold lim
 rw [hnd]
 by_cases h0 : N = 0
 ·subst h0
  have : Sv.nd ((0 : Nat) : Int) ≤ 4096 := by unfold Sv.nd; simp
  rw [if_pos rfl, if_pos this, if_neg (by omega), bi_text neg 0 h, Option.bind_some]
 ·rw [if_neg h0]
  by_cases h1 : Sv.nd (N : Int) ≤ 4096
  ·rw [if_pos h1, if_neg (by omega), bi_text neg N h, Option.bind_some]
  ·rw [if_neg h1, if_pos (by omega)]
set_option linter.unusedVariables false
set_option linter.unusedSimpArgs false
theorem div_of {a d q r : Int} (hd : 0 < d) (h : a = d * q + r) (h0 : 0 ≤ r) (h1 : r < d) : a / d = q ∧ a % d = r := by
 have := (Int.ediv_emod_unique (a := a) (b := d) (r := r) (q := q) hd).2 ⟨by omega, h0, h1⟩
 exact this
theorem drop_s (l : List Int) (i : Nat) (h : i < l.length) : Sv.vl 1000000000 (l.drop i) = l.getD i 0 + 1000000000 * Sv.vl 1000000000 (l.drop (i + 1)) := by
 rw [List.drop_eq_getElem_cons h, Sv.vl_cons]
 have : l.getD i 0 = l[i] := by simp [List.getD, h]
 rw [this]
theorem fld_inv (d : Int) (h0 : 0 < d) (h1 : d < 1000000000) (zs : List Int) (hd : Sv.Digs 1000000000 zs) (k : Nat) : k ≤ zs.length →
  (fld d (bk zs k)).1.length = zs.length ∧ Sv.Digs 1000000000 (fld d (bk zs k)).1 ∧ 0 ≤ (fld d (bk zs k)).2 ∧ (fld d (bk zs k)).2 < d ∧
   Sv.vl 1000000000 (zs.drop (zs.length - k)) = d * Sv.vl 1000000000 ((fld d (bk zs k)).1.drop (zs.length - k)) + (fld d (bk zs k)).2 := by
 induction k with
 | zero =>
  intro _
  refine ⟨by simp [bk, fld], by unfold bk fld; exact Sv.d_rep (by decide) _, by simp [bk, fld], by simpa [bk, fld] using h0, ?_⟩
  have e : (fld d (bk zs 0)).1.drop (zs.length - 0) = [] := List.drop_of_length_le (by simp [bk, fld])
  rw [e, Nat.sub_zero, List.drop_of_length_le (Nat.le_refl _)]
  simp [bk, fld, Sv.vl]
 | succ k ih =>
  intro hk
  obtain ⟨i1, i2, i3, i4, i5⟩ := ih (by omega)
  have hs : fld d (bk zs (k + 1)) = stp d (fld d (bk zs k)) ((zs.length : Int) - 1 - k) (rd zs ((zs.length : Int) - 1 - k)) := by
   unfold fld
   rw [bk, dif_pos (by omega), List.foldl_append]
   rfl
  have hi : zs.length - (k + 1) < zs.length := by omega
  have ei : ((zs.length : Int) - 1 - k) = ((zs.length - (k + 1) : Nat) : Int) := by omega
  have hv := Sv.g_digs (B := 1000000000) (by decide) hd (zs.length - (k + 1))
  rw [hs, ei, rd_nat]
  unfold stp
  rw [Int.toNat_natCast]
  have en : zs.length - (k + 1) + 1 = zs.length - k := by omega
  have ez := drop_s zs (zs.length - (k + 1)) hi
  rw [en] at ez
  generalize (fld d (bk zs k)).1 = q at *
  generalize (fld d (bk zs k)).2 = r at *
  generalize zs.getD (zs.length - (k + 1)) 0 = v at *
  have hnn : 0 ≤ r * 1000000000 + v := by omega
  have hm := Int.emod_add_mul_ediv (r * 1000000000 + v) d
  have hlt : (r * 1000000000 + v) / d < 1000000000 := by
   apply Int.ediv_lt_of_lt_mul h0
   have : 1000000000 * d = d * 1000000000 := Int.mul_comm _ _
   omega
  have hge : 0 ≤ (r * 1000000000 + v) / d := Int.ediv_nonneg hnn (by omega)
  have m0 := Int.emod_nonneg (r * 1000000000 + v) (show d ≠ 0 by omega)
  have m1 := Int.emod_lt_of_pos (r * 1000000000 + v) h0
  rw [Int.tdiv_eq_ediv_of_nonneg hnn, Int.tmod_eq_emod_of_nonneg hnn]
  have eq := drop_s (q.set (zs.length - (k + 1)) ((r * 1000000000 + v) / d)) (zs.length - (k + 1)) (by simp; omega)
  have e2 : (q.set (zs.length - (k + 1)) ((r * 1000000000 + v) / d)).drop (zs.length - (k + 1) + 1) = q.drop (zs.length - (k + 1) + 1) := List.drop_set_of_lt (by omega)
  rw [Sv.g_set_eq _ _ _ (by omega), e2, en] at eq
  refine ⟨by simpa using i1, Sv.d_set i2 _ hge hlt, m0, m1, ?_⟩
  show Sv.vl 1000000000 (zs.drop (zs.length - (k + 1))) = d * Sv.vl 1000000000 ((q.set (zs.length - (k + 1)) ((r * 1000000000 + v) / d)).drop (zs.length - (k + 1))) + _
  rw [eq, ez, i5]
  generalize Sv.vl 1000000000 (q.drop (zs.length - k)) = W at *
  generalize (r * 1000000000 + v) / d = Q at *
  generalize (r * 1000000000 + v) % d = M at *
  have e1 : d * (Q + 1000000000 * W) = d * Q + 1000000000 * (d * W) := by rw [Int.mul_add, Int.mul_left_comm]
  rw [e1]
  omega
theorem bi_short (n d : Nat) (h0 : 0 < d) (h1 : d < 1000000000) (hl : (mag n).length ≤ 1000000000000) : Ev (fun k => bIshort.f k (mag n) d) (mag (n / d), ((n % d : Nat) : Int)) := by
 unfold bIshort.f
 obtain ⟨i1, i2, i3, i4, i5⟩ := fld_inv d (by omega) (by omega) (mag n) (mag_digs n) (mag n).length (Nat.le_refl _)
 rw [Nat.sub_self, List.drop_zero, List.drop_zero, vl_mag] at i5
 refine Ev.pos ⟨by omega, by omega, mag_digs n, by omega⟩ (Ev.bind (bi_trim _ (by omega)) (Ev.of ?_))
 obtain ⟨e1, e2⟩ := div_of (by omega) i5 i3 i4
 rw [cut_mag i2 (n := n / d) (by rw [← e1]; rfl), ← e2]
 rfl
theorem sub_ev (v : List Int) (hv : Sv.Digs 1000000000 v) (q : Int) (hq0 : 0 ≤ q) (hq1 : q < 1000000000) (n : Nat) : ∀ (i : Nat) (u : List Int) (c : Int), i + n = u.length → Sv.Digs 1000000000 u → u.length ≤ 1000000000000 → v.length ≤ u.length → 0 ≤ c → c ≤ 1000000000 →
  ∃ b u', Ev (fun k => bIsubtract.l0 k u v q c (u.length : Int) i) (b, u') ∧ u'.length = u.length ∧ Sv.Digs 1000000000 u' ∧ ∃ c' : Int, 0 ≤ c' ∧ b = (c' == 0) ∧
   Sv.vl 1000000000 u' + q * Sv.vl 1000000000 v + Sv.pw 1000000000 i * c = Sv.vl 1000000000 u + q * Sv.vl 1000000000 (v.take i) + Sv.pw 1000000000 u.length * c' := by
 induction n with
 | zero =>
  intro i u c hi hd hb hl hc0 hc1
  refine ⟨(c == 0), u, Ev.succ ?_, rfl, hd, c, hc0, rfl, ?_⟩
  ·simp only [bIsubtract.l0]
   exact Ev.neg (by omega) (Ev.of rfl)
  ·rw [List.take_of_length_le (by omega), show i = u.length by omega]
 | succ n ih =>
  intro i u c hi hd hb hl hc0 hc1
  have du := Sv.g_digs (B := 1000000000) (by decide) hd i
  have dv := Sv.g_digs (B := 1000000000) (by decide) hv i
  have p0 : 0 ≤ q * v.getD i 0 := Int.mul_nonneg hq0 dv.1
  have p1 : q * v.getD i 0 ≤ 999999999 * 999999999 := Int.mul_le_mul (by omega) (by omega) dv.1 (by omega)
  obtain ⟨s, hs⟩ : ∃ s, s = c + q * v.getD i 0 := ⟨_, rfl⟩
  have hs0 : 0 ≤ s := by omega
  have hs1 : s ≤ 999999999000000001 + 1000000000 := by omega
  have step : ∀ b z : Int, z = u.getD i 0 - s % 1000000000 + 1000000000 * b → 0 ≤ z → z < 1000000000 → b = 0 ∨ b = 1 → ∃ bb u', Ev (fun k => bIsubtract.l0 k (u.set i z) v q (s / 1000000000 + b) (u.length : Int) ((i + 1 : Nat) : Int)) (bb, u') ∧ u'.length = u.length ∧ Sv.Digs 1000000000 u' ∧ ∃ c' : Int, 0 ≤ c' ∧ bb = (c' == 0) ∧
   Sv.vl 1000000000 u' + q * Sv.vl 1000000000 v + Sv.pw 1000000000 i * c = Sv.vl 1000000000 u + q * Sv.vl 1000000000 (v.take i) + Sv.pw 1000000000 u.length * c' := by
   intro b z hz z0 z1 hbb
   obtain ⟨bb, u', e1, e2, e3, c', e4, e5, e6⟩ := ih (i + 1) (u.set i z) (s / 1000000000 + b) (by rw [List.length_set]; omega) (Sv.d_set hd _ z0 z1) (by rw [List.length_set]; exact hb) (by rw [List.length_set]; exact hl) (by omega) (by omega)
   rw [List.length_set] at e1 e2 e6
   refine ⟨bb, u', e1, e2, e3, c', e4, e5, ?_⟩
   rw [Sv.v_set _ _ _ _ (by omega), Sv.v_take, Sv.pw_s] at e6
   have hm := Int.emod_add_mul_ediv s 1000000000
   generalize s % 1000000000 = r at *
   generalize s / 1000000000 = t at *
   generalize Sv.pw 1000000000 i = I at *
   generalize Sv.pw 1000000000 u.length * c' = X at *
   generalize q * Sv.vl 1000000000 v = Y at *
   clear ih e1 e2 e3 e4 e5 z0 z1 hs0 hs1 p0 p1 du dv hbb
   subst hz
   generalize u.getD i 0 = uu at *
   generalize v.getD i 0 = vv at *
   have hc : c = r + 1000000000 * t - q * vv := by omega
   subst hc
   clear hs hm
   grind
  have fin : ∀ (F : Nat → Option (Bool × List Int)), (∀ b z : Int, z = u.getD i 0 - s % 1000000000 + 1000000000 * b → 0 ≤ z → z < 1000000000 → b = 0 ∨ b = 1 → b = (if u.getD i 0 - s % 1000000000 < 0 then 1 else 0) → ∀ x, Ev (fun k => bIsubtract.l0 k (u.set i z) v q (s / 1000000000 + b) (u.length : Int) ((i + 1 : Nat) : Int)) x → Ev F x) →
    ∃ bb u', Ev F (bb, u') ∧ u'.length = u.length ∧ Sv.Digs 1000000000 u' ∧ ∃ c' : Int, 0 ≤ c' ∧ bb = (c' == 0) ∧ Sv.vl 1000000000 u' + q * Sv.vl 1000000000 v + Sv.pw 1000000000 i * c = Sv.vl 1000000000 u + q * Sv.vl 1000000000 (v.take i) + Sv.pw 1000000000 u.length * c' := by
   intro F hF
   by_cases h : u.getD i 0 - s % 1000000000 < 0
   ·obtain ⟨bb, u', e1, e2⟩ := step 1 _ rfl (by omega) (by omega) (.inr rfl)
    exact ⟨bb, u', hF 1 _ rfl (by omega) (by omega) (.inr rfl) (by rw [if_pos h]) _ e1, e2⟩
   ·obtain ⟨bb, u', e1, e2⟩ := step 0 _ rfl (by omega) (by omega) (.inl rfl)
    exact ⟨bb, u', hF 0 _ rfl (by omega) (by omega) (.inl rfl) (by rw [if_neg h]) _ e1, e2⟩
  apply fin
  intro b z hz z0 z1 hb01 hbb x hx
  refine Ev.succ ?_
  simp only [bIsubtract.l0]
  have es : ∀ y : Int, y = s → Int.tmod y 1000000000 = s % 1000000000 ∧ wrap64 (Int.tdiv y 1000000000) = s / 1000000000 := fun y hy => by rw [hy]; exact dm hs0 (by omega) (by omega)
  have ew : ∀ y : Int, 0 ≤ y → y ≤ 9000000000000000000 → wrap64 y = y := fun y h0 h1 => w64 (by omega) (by omega)
  have fin2 : ∀ y : Int, y = s → Ev (fun k => if (wrap64 ((rd u (i : Int)) - (Int.tmod y 1000000000))) < 0 then (bIsubtract.l0 k (u.set ((i : Int)).toNat (wrap64 ((wrap64 ((rd u (i : Int)) - (Int.tmod y 1000000000))) + 1000000000))) v q (wrap64 ((wrap64 (Int.tdiv y 1000000000)) + 1)) (u.length : Int) (wrap64 ((i : Int) + 1))) else (bIsubtract.l0 k (u.set ((i : Int)).toNat (wrap64 ((rd u (i : Int)) - (Int.tmod y 1000000000)))) v q (wrap64 (Int.tdiv y 1000000000)) (u.length : Int) (wrap64 ((i : Int) + 1)))) x := by
   intro y hy
   rw [(es y hy).1, (es y hy).2, rd_nat, Int.toNat_natCast]
   clear es ew
   rw [(w64n (by omega) (by omega) : wrap64 ((i : Int) + 1) = ((i + 1 : Nat) : Int)), (w64 (by omega) (by omega) : wrap64 (u.getD i 0 - s % 1000000000) = u.getD i 0 - s % 1000000000), (w64 (by omega) (by omega) : wrap64 (u.getD i 0 - s % 1000000000 + 1000000000) = u.getD i 0 - s % 1000000000 + 1000000000), (w64 (by omega) (by omega) : wrap64 (s / 1000000000 + 1) = s / 1000000000 + 1)]
   by_cases h : u.getD i 0 - s % 1000000000 < 0
   ·rw [if_pos h] at hbb
    subst hbb
    refine Ev.pos h ?_
    rw [Int.mul_one] at hz
    rw [← hz]; exact hx
   ·rw [if_neg h] at hbb
    subst hbb
    refine Ev.neg h ?_
    rw [Int.mul_zero, Int.add_zero] at hz
    rw [Int.add_zero] at hx
    rw [← hz]; exact hx
  refine Ev.pos (by omega) ?_
  by_cases hiv : i < v.length
  ·refine Ev.pos (by omega) (Ev.pos (by omega) (Ev.pos (by omega) (fin2 _ ?_)))
   rw [rd_nat, ew _ p0 (by omega), ew _ (by omega) (by omega), hs]
  ·refine Ev.neg (by omega) (Ev.pos (by omega) (Ev.pos (by omega) (fin2 _ ?_)))
   rw [hs, Sv.g_ge v i (by omega), Int.mul_zero, Int.add_zero]
set_option linter.unusedVariables false
set_option linter.unusedSimpArgs false
theorem back_ev (v : List Int) (hv : Sv.Digs 1000000000 v) (q m : Int) (L : Nat) (n : Nat) : ∀ (i : Nat) (u : List Int) (c : Int), i + n = u.length → L = u.length → m = v.length → Sv.Digs 1000000000 u → u.length ≤ 1000000000000 → v.length ≤ u.length → 0 ≤ c → c ≤ 1 →
  ∃ u', Ev (fun k => bIestimate.l1 k u v m q c (L : Int) i) (q, u') ∧ u'.length = u.length ∧ Sv.Digs 1000000000 u' ∧ ∃ c' : Int, 0 ≤ c' ∧ c' ≤ 1 ∧
   Sv.vl 1000000000 u' + Sv.vl 1000000000 (v.take i) + Sv.pw 1000000000 u.length * c' = Sv.vl 1000000000 u + Sv.vl 1000000000 v + Sv.pw 1000000000 i * c := by
 induction n with
 | zero =>
  intro i u c hi hL hm hd hb hl hc0 hc1
  refine ⟨u, Ev.succ ?_, rfl, hd, c, hc0, hc1, ?_⟩
  ·simp only [bIestimate.l1]
   exact Ev.neg (by omega) (Ev.of rfl)
  ·rw [List.take_of_length_le (by omega), show i = u.length by omega]
 | succ n ih =>
  intro i u c hi hL hm hd hb hl hc0 hc1
  have du := Sv.g_digs (B := 1000000000) (by decide) hd i
  have dv := Sv.g_digs (B := 1000000000) (by decide) hv i
  obtain ⟨s, hs⟩ : ∃ s, s = c + u.getD i 0 + v.getD i 0 := ⟨_, rfl⟩
  have hs0 : 0 ≤ s := by omega
  have hs1 : s ≤ 2000000000 - 1 := by omega
  obtain ⟨u', e1, e2, e3, c', e4, e5, e6⟩ := ih (i + 1) (u.set i (s % 1000000000)) (s / 1000000000) (by rw [List.length_set]; omega) (by rw [List.length_set]; exact hL) hm (Sv.d_set hd _ (by omega) (by omega)) (by rw [List.length_set]; exact hb) (by rw [List.length_set]; exact hl) (by omega) (by omega)
  rw [List.length_set] at e2 e6
  have e7 : Sv.vl 1000000000 u' + Sv.vl 1000000000 (v.take i) + Sv.pw 1000000000 u.length * c' = Sv.vl 1000000000 u + Sv.vl 1000000000 v + Sv.pw 1000000000 i * c := by
   rw [Sv.v_set _ _ _ _ (by omega), Sv.v_take, Sv.pw_s] at e6
   have hm := Int.emod_add_mul_ediv s 1000000000
   generalize s % 1000000000 = r at *
   generalize s / 1000000000 = t at *
   generalize Sv.pw 1000000000 i = I at *
   generalize Sv.pw 1000000000 u.length * c' = X at *
   generalize u.getD i 0 = uu at *
   generalize v.getD i 0 = vv at *
   clear ih e1 e2 e3 e4 e5 hs0 hs1 du dv
   have hc : c = r + 1000000000 * t - uu - vv := by omega
   subst hc
   clear hs hm
   grind
  refine ⟨u', Ev.succ ?_, e2, e3, c', e4, e5, e7⟩
  simp only [bIestimate.l1]
  clear ih e2 e3 e4 e5 e6 e7
  rw [rd_nat, rd_nat, Int.toNat_natCast, (w64n (by omega) (by omega) : wrap64 ((i : Int) + 1) = ((i + 1 : Nat) : Int)), (w64 (by omega) (by omega) : wrap64 (c + u.getD i 0) = c + u.getD i 0)]
  refine Ev.pos (by omega) (Ev.pos (by omega) (Ev.pos (by omega) ?_))
  by_cases hiv : i < v.length
  ·refine Ev.pos (by omega) (Ev.pos (by omega) ?_)
   rw [(w64 (by omega) (by omega) : wrap64 (c + u.getD i 0 + v.getD i 0) = c + u.getD i 0 + v.getD i 0), ← hs]
   obtain ⟨d1, d2⟩ := dm (z := s) (B := 1000000000) hs0 (by omega) (by omega)
   rw [d1, d2]
   exact e1
  ·have hv0 := Sv.g_ge v i (by omega)
   refine Ev.neg (by omega) ?_
   rw [show c + u.getD i 0 = s by omega]
   obtain ⟨d1, d2⟩ := dm (z := s) (B := 1000000000) hs0 (by omega) (by omega)
   rw [d1, d2]
   exact e1
theorem est_j1 (u v : List Int) (hu : Sv.Digs 1000000000 u) (hv : Sv.Digs 1000000000 v) (hl : u.length = v.length + 1) (hb : u.length ≤ 1000000000000) (hV : 0 < Sv.vl 1000000000 v) (q : Int) (hq0 : 0 ≤ q) (hq1 : q < 1000000000)
  (h1 : Sv.vl 1000000000 u / Sv.vl 1000000000 v ≤ q) (h2 : q ≤ Sv.vl 1000000000 u / Sv.vl 1000000000 v + 1) :
  ∃ u', Ev (fun k => bIestimate.j1 k u v (v.length : Int) q) (Sv.vl 1000000000 u / Sv.vl 1000000000 v, u') ∧ u'.length = u.length ∧ Sv.Digs 1000000000 u' ∧ Sv.vl 1000000000 u' = Sv.vl 1000000000 u % Sv.vl 1000000000 v := by
 obtain ⟨b, w, e1, e2, e3, c, e4, e5, e6⟩ := sub_ev v hv q hq0 hq1 u.length 0 u 0 (by omega) hu hb (by omega) (by omega) (by omega)
 rw [List.take_zero, Sv.vl_nil, Int.mul_zero, Int.mul_zero, Int.add_zero, Int.add_zero] at e6
 have l1 := Sv.v_lt (B := 1000000000) (by decide) e3
 have l2 := Sv.vl_nonneg (B := 1000000000) (by decide) e3
 have l3 := Sv.v_lt (B := 1000000000) (by decide) hv
 have l4 : Sv.pw 1000000000 v.length ≤ Sv.pw 1000000000 u.length := Sv.pw_mono (by decide) (by omega)
 have l5 := Sv.pw_pos (B := 1000000000) (by decide) u.length
 have hdm := Int.mul_ediv_add_emod (Sv.vl 1000000000 u) (Sv.vl 1000000000 v)
 have m0 := Int.emod_nonneg (Sv.vl 1000000000 u) (show Sv.vl 1000000000 v ≠ 0 by omega)
 have m1 := Int.emod_lt_of_pos (Sv.vl 1000000000 u) hV
 rw [e2] at l1
 rcases (show q = Sv.vl 1000000000 u / Sv.vl 1000000000 v ∨ q = Sv.vl 1000000000 u / Sv.vl 1000000000 v + 1 by omega) with hq | hq
 ·have hc : c = 0 := by
   rw [← hq, Int.mul_comm] at hdm
   rcases (show c = 0 ∨ 1 ≤ c by omega) with h | h
   ·exact h
   ·have := Int.mul_le_mul_of_nonneg_left h (show 0 ≤ Sv.pw 1000000000 u.length by omega)
    omega
  subst hc
  refine ⟨w, Ev.succ ?_, e2, e3, ?_⟩
  ·simp only [bIestimate.j1]
   refine Ev.bind e1 (Ev.pos (by rw [e5]; rfl) (Ev.of ?_))
   rw [← hq]
  ·rw [← hq, Int.mul_comm] at hdm
   omega
 ·have e7 : q * Sv.vl 1000000000 v = Sv.vl 1000000000 v * (Sv.vl 1000000000 u / Sv.vl 1000000000 v) + Sv.vl 1000000000 v := by rw [hq, Int.mul_comm, Int.mul_add, Int.mul_one]
  have hc : c = 1 := by
   rcases (show c = 0 ∨ c = 1 ∨ 2 ≤ c by omega) with h | h | h
   ·subst h; omega
   ·exact h
   ·have := Int.mul_le_mul_of_nonneg_left h (show 0 ≤ Sv.pw 1000000000 u.length by omega)
    omega
  subst hc
  obtain ⟨u', f1, f2, f3, c', f4, f5, f6⟩ := back_ev v hv (q - 1) (v.length : Int) u.length w.length 0 w 0 (by omega) e2.symm rfl e3 (by omega) (by omega) (by omega) (by omega)
  rw [List.take_zero, Sv.vl_nil, Int.mul_zero, Int.add_zero, Int.add_zero, e2] at f6
  have k1 := Sv.v_lt (B := 1000000000) (by decide) f3
  have k2 := Sv.vl_nonneg (B := 1000000000) (by decide) f3
  rw [f2, e2] at k1
  have hc' : c' = 1 := by
   rcases (show c' = 0 ∨ c' = 1 by omega) with h | h
   ·subst h; omega
   ·exact h
  subst hc'
  refine ⟨u', Ev.succ ?_, by omega, f3, by omega⟩
  simp only [bIestimate.j1]
  refine Ev.bind e1 (Ev.neg (by show ¬ b = true; rw [e5]; decide) ?_)
  rw [(w64 (by omega) (by omega) : wrap64 (q - 1) = q - 1)]
  refine f1.eq ?_
  rw [hq]
  congr 1
  omega
theorem kn_ge {A V t u2 v1 v2 P a v q r : Int} (hA : A = (t * 1000000000 + u2) * P + a) (hV : V = (v1 * 1000000000 + v2) * P + v) (hP : 0 < P) (ha : 0 ≤ a ∧ a < P) (hv : 0 ≤ v ∧ v < P) (hV0 : 0 < V) (hq : 0 ≤ q)
  (ht : q * v1 + r = t) (hlt : r * 1000000000 + u2 < q * v2) : A / V < q := by
 apply Int.ediv_lt_of_lt_mul hV0
 have h1 : t * 1000000000 + u2 + 1 ≤ q * (v1 * 1000000000 + v2) := by
  have : q * (v1 * 1000000000 + v2) = q * v1 * 1000000000 + q * v2 := by grind
  omega
 have h2 := Int.mul_le_mul_of_nonneg_right h1 (show 0 ≤ P by omega)
 have h3 : (t * 1000000000 + u2 + 1) * P = (t * 1000000000 + u2) * P + P := by grind
 have h4 : q * V = q * (v1 * 1000000000 + v2) * P + q * v := by rw [hV]; grind
 have h5 := Int.mul_nonneg hq hv.1
 rw [h4]
 omega
theorem kn_le {A V t u2 v1 v2 P a v q r : Int} (hA : A = (t * 1000000000 + u2) * P + a) (hV : V = (v1 * 1000000000 + v2) * P + v) (hP : 0 < P) (ha : 0 ≤ a ∧ a < P) (hv : 0 ≤ v ∧ v < P) (h1 : 1 ≤ v1) (h2 : 0 ≤ v2 ∧ v2 < 1000000000) (hu : 0 ≤ u2) (hq : 0 ≤ q) (hq1 : q < 1000000000)
  (ht : q * v1 + r = t) (hx : 1000000000 ≤ r ∨ q * v2 ≤ r * 1000000000 + u2) : q ≤ A / V + 1 := by
 have k1 : q * v2 ≤ r * 1000000000 + u2 := by
  rcases hx with h | h
  ·have : q * v2 ≤ 999999999 * 999999999 := Int.mul_le_mul (by omega) (by omega) h2.1 (by omega)
   omega
  ·exact h
 have k2 : q * (v1 * 1000000000 + v2) ≤ t * 1000000000 + u2 := by
  have : q * (v1 * 1000000000 + v2) = q * v1 * 1000000000 + q * v2 := by grind
  omega
 have k3 := Int.mul_le_mul_of_nonneg_right k2 (show 0 ≤ P by omega)
 have k4 : q * V = q * (v1 * 1000000000 + v2) * P + q * v := by rw [hV]; grind
 have k5 : q * v ≤ 999999999 * (P - 1) := Int.mul_le_mul (by omega) (by omega) hv.1 (by omega)
 have k6 : 1000000000 * P ≤ (v1 * 1000000000 + v2) * P := Int.mul_le_mul_of_nonneg_right (by omega) (by omega)
 have hV0 : 0 < V := by omega
 have k7 : (q - 1) * V ≤ A := by
  rw [Int.sub_mul, Int.one_mul]
  omega
 have := (Int.le_ediv_iff_mul_le hV0).2 k7
 omega
theorem kn_top {A V t u2 v1 v2 P a v : Int} (hA : A = (t * 1000000000 + u2) * P + a) (hV : V = (v1 * 1000000000 + v2) * P + v) (hP : 0 < P) (ha : 0 ≤ a ∧ a < P) (hv : 0 ≤ v ∧ v < P) (h1 : 1 ≤ v1) (h2 : 0 ≤ v2 ∧ v2 < 1000000000) (hu : u2 < 1000000000) (hA0 : 0 ≤ A) : A / V ≤ t / v1 := by
 have k6 : 1000000000 * P ≤ (v1 * 1000000000 + v2) * P := Int.mul_le_mul_of_nonneg_right (by omega) (by omega)
 have hV0 : 0 < V := by omega
 apply (Int.le_ediv_iff_mul_le (by omega)).2
 have h3 : A / V * V ≤ A := Int.ediv_mul_le A (by omega)
 have h4 := Int.ediv_nonneg hA0 (show 0 ≤ V by omega)
 generalize A / V = q at *
 have k4 : q * V = (q * v1) * (1000000000 * P) + q * v2 * P + q * v := by rw [hV]; grind
 have k5 := Int.mul_nonneg h4 hv.1
 have k7 := Int.mul_nonneg (Int.mul_nonneg h4 h2.1) (show 0 ≤ P by omega)
 have k8 : A < (t + 1) * (1000000000 * P) := by
  have : (t + 1) * (1000000000 * P) = (t * 1000000000 + 1000000000) * P := by grind
  have h9 := Int.mul_le_mul_of_nonneg_right (show t * 1000000000 + u2 + 1 ≤ t * 1000000000 + 1000000000 by omega) (show 0 ≤ P by omega)
  have h10 : (t * 1000000000 + u2 + 1) * P = (t * 1000000000 + u2) * P + P := by grind
  omega
 have k9 : q * v1 * (1000000000 * P) < (t + 1) * (1000000000 * P) := by omega
 have := Int.lt_of_mul_lt_mul_right k9 (by omega)
 omega
theorem kn_r {A V t u2 v1 v2 P a v : Int} (hA : A = (t * 1000000000 + u2) * P + a) (hV : V = (v1 * 1000000000 + v2) * P + v) (hP : 0 < P) (ha : 0 ≤ a ∧ a < P) (hv : 0 ≤ v ∧ v < P) (h2 : 0 ≤ v2 ∧ v2 < 1000000000) (hu : 0 ≤ u2) (hlt : A < 1000000000 * V) : t < 1000000000 * v1 + 1000000000 := by
 have k1 : t * (1000000000 * P) ≤ A := by
  have : (t * 1000000000 + u2) * P = t * (1000000000 * P) + u2 * P := by grind
  have h9 := Int.mul_nonneg hu (show 0 ≤ P by omega)
  omega
 have k2 : V ≤ (v1 + 1) * (1000000000 * P) := by
  have h9 := Int.mul_le_mul_of_nonneg_right (show v1 * 1000000000 + v2 + 1 ≤ v1 * 1000000000 + 1000000000 by omega) (show 0 ≤ P by omega)
  have h10 : (v1 * 1000000000 + v2 + 1) * P = (v1 * 1000000000 + v2) * P + P := by grind
  have h11 : (v1 * 1000000000 + 1000000000) * P = (v1 + 1) * (1000000000 * P) := by grind
  omega
 have k3 : t * (1000000000 * P) < (1000000000 * v1 + 1000000000) * (1000000000 * P) := by
  have : (1000000000 * v1 + 1000000000) * (1000000000 * P) = 1000000000 * ((v1 + 1) * (1000000000 * P)) := by grind
  omega
 exact Int.lt_of_mul_lt_mul_right k3 (by omega)
theorem est_l0 (u v : List Int) (hu : Sv.Digs 1000000000 u) (hv : Sv.Digs 1000000000 v) (n : Nat) (hn : v.length = n + 2) (hl : u.length = n + 3) (hb : u.length ≤ 1000000000000) (h1 : 1 ≤ v.getD (n + 1) 0)
  (hlt : Sv.vl 1000000000 u < 1000000000 * Sv.vl 1000000000 v) (Q : Nat) : ∀ (q r : Int), q = Q → q < 1000000000 → 0 ≤ r → r < 2000000000 → q * v.getD (n + 1) 0 + r = u.getD (n + 2) 0 * 1000000000 + u.getD (n + 1) 0 → Sv.vl 1000000000 u / Sv.vl 1000000000 v ≤ q →
  ∃ u', Ev (fun k => bIestimate.l0 k u v (v.length : Int) q r) (Sv.vl 1000000000 u / Sv.vl 1000000000 v, u') ∧ u'.length = u.length ∧ Sv.Digs 1000000000 u' ∧ Sv.vl 1000000000 u' = Sv.vl 1000000000 u % Sv.vl 1000000000 v := by
 have eV : Sv.vl 1000000000 v = (v.getD (n + 1) 0 * 1000000000 + v.getD n 0) * Sv.pw 1000000000 n + Sv.vl 1000000000 (v.take n) := by
  have a1 := Sv.v_take 1000000000 v (n + 1)
  have a2 := Sv.v_take 1000000000 v n
  rw [List.take_of_length_le (by omega), a2, Sv.pw_s] at a1
  rw [a1]; grind
 have eU : Sv.vl 1000000000 u = ((u.getD (n + 2) 0 * 1000000000 + u.getD (n + 1) 0) * 1000000000 + u.getD n 0) * Sv.pw 1000000000 n + Sv.vl 1000000000 (u.take n) := by
  have a0 := Sv.v_take 1000000000 u (n + 2)
  have a1 := Sv.v_take 1000000000 u (n + 1)
  have a2 := Sv.v_take 1000000000 u n
  rw [List.take_of_length_le (by omega), a1, a2, Sv.pw_s 1000000000 (n + 1), Sv.pw_s 1000000000 n] at a0
  rw [a0]; grind
 have hP := Sv.pw_pos (B := 1000000000) (by decide) n
 have bv : 0 ≤ Sv.vl 1000000000 (v.take n) ∧ Sv.vl 1000000000 (v.take n) < Sv.pw 1000000000 n := by
  have := Sv.v_lt (B := 1000000000) (by decide) (Sv.d_take hv n)
  rw [List.length_take, Nat.min_eq_left (by omega)] at this
  exact ⟨Sv.vl_nonneg (by decide) (Sv.d_take hv n), this⟩
 have bu : 0 ≤ Sv.vl 1000000000 (u.take n) ∧ Sv.vl 1000000000 (u.take n) < Sv.pw 1000000000 n := by
  have := Sv.v_lt (B := 1000000000) (by decide) (Sv.d_take hu n)
  rw [List.length_take, Nat.min_eq_left (by omega)] at this
  exact ⟨Sv.vl_nonneg (by decide) (Sv.d_take hu n), this⟩
 have g1 := Sv.g_digs (B := 1000000000) (by decide) hv (n + 1)
 have g2 := Sv.g_digs (B := 1000000000) (by decide) hv n
 have g3 := Sv.g_digs (B := 1000000000) (by decide) hu n
 have hU0 := Sv.vl_nonneg (B := 1000000000) (by decide) hu
 have hV0 : 0 < Sv.vl 1000000000 v := by
  have := Int.mul_pos (show 0 < v.getD (n + 1) 0 * 1000000000 + v.getD n 0 by omega) hP
  omega
 have hQ0 := Int.ediv_nonneg hU0 (show 0 ≤ Sv.vl 1000000000 v by omega)
 induction Q with
 | zero =>
  intro q r hq hq1 hr0 hr1 ht hge
  have hq0 : q = 0 := by omega
  have hle : q ≤ Sv.vl 1000000000 u / Sv.vl 1000000000 v + 1 := by omega
  obtain ⟨u', f1, f2⟩ := est_j1 u v hu hv (by omega) hb hV0 q (by omega) hq1 hge hle
  refine ⟨u', Ev.succ ?_, f2⟩
  simp only [bIestimate.l0]
  by_cases hr : r < 1000000000
  ·rw [(w64n (by omega) (by omega) : wrap64 ((v.length : Int) - 2) = (n : Int)), rd_nat, rd_nat, hq0, Int.zero_mul, (w64 (by omega) (by omega) : wrap64 0 = 0), (w64 (by omega) (by omega) : wrap64 (r * 1000000000) = r * 1000000000), (w64 (by omega) (by omega) : wrap64 (r * 1000000000 + u.getD n 0) = r * 1000000000 + u.getD n 0)]
   rw [hq0] at f1
   exact Ev.pos hr (Ev.pos (by omega) (Ev.pos (by omega) (Ev.pos (by omega) (Ev.neg (by omega) f1))))
  ·exact Ev.neg hr f1
 | succ Q ih =>
  intro q r hq hq1 hr0 hr1 ht hge
  have p0 : 0 ≤ q * v.getD n 0 := Int.mul_nonneg (by omega) g2.1
  have p1 : q * v.getD n 0 ≤ 999999999 * 999999999 := Int.mul_le_mul (by omega) (by omega) g2.1 (by omega)
  by_cases hr : r < 1000000000
  ·by_cases hc : q * v.getD n 0 > r * 1000000000 + u.getD n 0
   ·have hk := kn_ge eU eV hP bu bv hV0 (by omega) ht hc
    have hstep : (q - 1) * v.getD (n + 1) 0 + (r + v.getD (n + 1) 0) = u.getD (n + 2) 0 * 1000000000 + u.getD (n + 1) 0 := by
     rw [Int.sub_mul, Int.one_mul]; omega
    obtain ⟨u', f1, f2⟩ := ih (q - 1) (r + v.getD (n + 1) 0) (by omega) (by omega) (by omega) (by omega) hstep (by omega)
    refine ⟨u', Ev.succ ?_, f2⟩
    simp only [bIestimate.l0]
    clear ih eU eV
    rw [(w64n (by omega) (by omega) : wrap64 ((v.length : Int) - 2) = (n : Int)), (w64n (by omega) (by omega) : wrap64 ((v.length : Int) - 1) = ((n + 1 : Nat) : Int)), rd_nat, rd_nat, rd_nat, (w64 (by omega) (by omega) : wrap64 (q * v.getD n 0) = q * v.getD n 0), (w64 (by omega) (by omega) : wrap64 (r * 1000000000) = r * 1000000000), (w64 (by omega) (by omega) : wrap64 (r * 1000000000 + u.getD n 0) = r * 1000000000 + u.getD n 0), (w64 (by omega) (by omega) : wrap64 (q - 1) = q - 1), (w64 (by omega) (by omega) : wrap64 (r + v.getD (n + 1) 0) = r + v.getD (n + 1) 0)]
    exact Ev.pos hr (Ev.pos (by omega) (Ev.pos (by omega) (Ev.pos (by omega) (Ev.pos hc (Ev.pos (by omega) (Ev.pos (by omega) f1))))))
   ·have hle := kn_le eU eV hP bu bv h1 g2 g3.1 (by omega) hq1 ht (.inr (by omega))
    obtain ⟨u', f1, f2⟩ := est_j1 u v hu hv (by omega) hb hV0 q (by omega) hq1 hge hle
    refine ⟨u', Ev.succ ?_, f2⟩
    simp only [bIestimate.l0]
    clear ih eU eV
    rw [(w64n (by omega) (by omega) : wrap64 ((v.length : Int) - 2) = (n : Int)), rd_nat, rd_nat, (w64 (by omega) (by omega) : wrap64 (q * v.getD n 0) = q * v.getD n 0), (w64 (by omega) (by omega) : wrap64 (r * 1000000000) = r * 1000000000), (w64 (by omega) (by omega) : wrap64 (r * 1000000000 + u.getD n 0) = r * 1000000000 + u.getD n 0)]
    exact Ev.pos hr (Ev.pos (by omega) (Ev.pos (by omega) (Ev.pos (by omega) (Ev.neg hc f1))))
  ·have hle := kn_le eU eV hP bu bv h1 g2 g3.1 (by omega) hq1 ht (.inl (by omega))
   obtain ⟨u', f1, f2⟩ := est_j1 u v hu hv (by omega) hb hV0 q (by omega) hq1 hge hle
   refine ⟨u', Ev.succ ?_, f2⟩
   simp only [bIestimate.l0]
   exact Ev.neg hr f1
theorem bi_estimate (u v : List Int) (hu : Sv.Digs 1000000000 u) (hv : Sv.Digs 1000000000 v) (n : Nat) (hn : v.length = n + 2) (hl : u.length = n + 3) (hb : u.length ≤ 1000000000000) (h1 : 1 ≤ v.getD (n + 1) 0)
  (hlt : Sv.vl 1000000000 u < 1000000000 * Sv.vl 1000000000 v) :
  ∃ u', Ev (fun k => bIestimate.f k u v) (Sv.vl 1000000000 u / Sv.vl 1000000000 v, u') ∧ u'.length = u.length ∧ Sv.Digs 1000000000 u' ∧ Sv.vl 1000000000 u' = Sv.vl 1000000000 u % Sv.vl 1000000000 v := by
 have g1 := Sv.g_digs (B := 1000000000) (by decide) hv (n + 1)
 have g2 := Sv.g_digs (B := 1000000000) (by decide) hu (n + 1)
 have g3 := Sv.g_digs (B := 1000000000) (by decide) hu (n + 2)
 obtain ⟨t, ht⟩ : ∃ t, t = u.getD (n + 2) 0 * 1000000000 + u.getD (n + 1) 0 := ⟨_, rfl⟩
 have t0 : 0 ≤ t := by omega
 have t1 : t ≤ 999999999999999999 := by omega
 have d0 := Int.ediv_nonneg t0 (show 0 ≤ v.getD (n + 1) 0 by omega)
 have d1 : t / v.getD (n + 1) 0 ≤ t := Int.ediv_le_self _ t0
 have hU0 := Sv.vl_nonneg (B := 1000000000) (by decide) hu
 have hP := Sv.pw_pos (B := 1000000000) (by decide) n
 have eV : Sv.vl 1000000000 v = (v.getD (n + 1) 0 * 1000000000 + v.getD n 0) * Sv.pw 1000000000 n + Sv.vl 1000000000 (v.take n) := by
  have a1 := Sv.v_take 1000000000 v (n + 1)
  have a2 := Sv.v_take 1000000000 v n
  rw [List.take_of_length_le (by omega), a2, Sv.pw_s] at a1
  rw [a1]; grind
 have eU : Sv.vl 1000000000 u = (t * 1000000000 + u.getD n 0) * Sv.pw 1000000000 n + Sv.vl 1000000000 (u.take n) := by
  have a0 := Sv.v_take 1000000000 u (n + 2)
  have a1 := Sv.v_take 1000000000 u (n + 1)
  have a2 := Sv.v_take 1000000000 u n
  rw [List.take_of_length_le (by omega), a1, a2, Sv.pw_s 1000000000 (n + 1), Sv.pw_s 1000000000 n] at a0
  rw [a0, ht]; grind
 have bv : 0 ≤ Sv.vl 1000000000 (v.take n) ∧ Sv.vl 1000000000 (v.take n) < Sv.pw 1000000000 n := by
  have := Sv.v_lt (B := 1000000000) (by decide) (Sv.d_take hv n)
  rw [List.length_take, Nat.min_eq_left (by omega)] at this
  exact ⟨Sv.vl_nonneg (by decide) (Sv.d_take hv n), this⟩
 have bu : 0 ≤ Sv.vl 1000000000 (u.take n) ∧ Sv.vl 1000000000 (u.take n) < Sv.pw 1000000000 n := by
  have := Sv.v_lt (B := 1000000000) (by decide) (Sv.d_take hu n)
  rw [List.length_take, Nat.min_eq_left (by omega)] at this
  exact ⟨Sv.vl_nonneg (by decide) (Sv.d_take hu n), this⟩
 have g4 := Sv.g_digs (B := 1000000000) (by decide) hv n
 have g5 := Sv.g_digs (B := 1000000000) (by decide) hu n
 have hV0 : 0 < Sv.vl 1000000000 v := by
  have := Int.mul_pos (show 0 < v.getD (n + 1) 0 * 1000000000 + v.getD n 0 by omega) hP
  omega
 have hQ : Sv.vl 1000000000 u / Sv.vl 1000000000 v < 1000000000 := Int.ediv_lt_of_lt_mul hV0 hlt
 have hT := kn_top eU eV hP bu bv h1 g4 g5.2 hU0
 obtain ⟨q, hq⟩ : ∃ q, q = mn (t / v.getD (n + 1) 0) 999999999 := ⟨_, rfl⟩
 have hq' : q = t / v.getD (n + 1) 0 ∨ (q = 999999999 ∧ 999999999 < t / v.getD (n + 1) 0) := by
  rw [hq]; unfold mn
  split
  ·exact .inr ⟨rfl, by assumption⟩
  ·exact .inl rfl
 have hq0 : 0 ≤ q := by omega
 have hq1 : q < 1000000000 := by
  rw [hq]; unfold mn
  split <;> omega
 have hQq : Sv.vl 1000000000 u / Sv.vl 1000000000 v ≤ q := by omega
 have hqt : q * v.getD (n + 1) 0 ≤ t := by
  have h3 : t / v.getD (n + 1) 0 * v.getD (n + 1) 0 ≤ t := Int.ediv_mul_le t (by omega)
  have h4 := Int.mul_le_mul_of_nonneg_right (show q ≤ t / v.getD (n + 1) 0 by omega) (show 0 ≤ v.getD (n + 1) 0 by omega)
  omega
 have hqt0 := Int.mul_nonneg hq0 g1.1
 have hR := kn_r eU eV hP bu bv g4 g5.1 hlt
 have hr2 : t - q * v.getD (n + 1) 0 < 2000000000 := by
  rcases hq' with h | ⟨h, -⟩
  ·have := Int.mul_ediv_add_emod t (v.getD (n + 1) 0)
   have h3 := Int.emod_lt_of_pos t (show 0 < v.getD (n + 1) 0 by omega)
   rw [h, Int.mul_comm]
   omega
  ·rw [h]; omega
 unfold bIestimate.f
 clear eU eV bu bv hT hR
 rw [(w64n (by omega) (by omega) : wrap64 ((v.length : Int) - 1) = ((n + 1 : Nat) : Int)), show ((v.length : Nat) : Int) = ((n + 2 : Nat) : Int) by omega, rd_nat, rd_nat, rd_nat]
 rw [(w64 (by omega) (by omega) : wrap64 (u.getD (n + 2) 0 * 1000000000) = u.getD (n + 2) 0 * 1000000000), (w64 (by omega) (by omega) : wrap64 (u.getD (n + 2) 0 * 1000000000 + u.getD (n + 1) 0) = u.getD (n + 2) 0 * 1000000000 + u.getD (n + 1) 0), ← ht, Int.tdiv_eq_ediv_of_nonneg t0, (w64 (by omega) (by omega) : wrap64 (t / v.getD (n + 1) 0) = t / v.getD (n + 1) 0), ← hq, (w64 (by omega) (by omega) : wrap64 (q * v.getD (n + 1) 0) = q * v.getD (n + 1) 0), (w64 (by omega) (by omega) : wrap64 (t - q * v.getD (n + 1) 0) = t - q * v.getD (n + 1) 0)]
 by_cases hrr : t - q * v.getD (n + 1) 0 < 2000000000
 ·obtain ⟨u', f1, f2⟩ := est_l0 u v hu hv n hn hl hb h1 hlt q.toNat q (t - q * v.getD (n + 1) 0) (by omega) hq1 (by omega) hrr (by omega) hQq
  refine ⟨u', ?_, f2⟩
  rw [show ((v.length : Nat) : Int) = ((n + 2 : Nat) : Int) by omega] at f1
  exact Ev.pos (by omega) (Ev.pos (by omega) (Ev.pos (by omega) (Ev.pos (by omega) (Ev.pos (by omega) (Ev.neg (by omega) f1)))))
 ·omega
set_option linter.unusedVariables false
set_option linter.unusedSimpArgs false
theorem vl_small {l : List Int} (hd : Sv.Digs 1000000000 l) (k : Nat) (hk : k ≤ l.length) (h : Sv.vl 1000000000 l < Sv.pw 1000000000 k) : Sv.vl 1000000000 (l.drop k) = 0 ∧ Sv.vl 1000000000 (l.take k) = Sv.vl 1000000000 l := by
 have h1 := Sv.v_split 1000000000 l k hk
 have h2 := Sv.vl_nonneg (B := 1000000000) (by decide) (Sv.d_drop hd k)
 have h3 := Sv.vl_nonneg (B := 1000000000) (by decide) (Sv.d_take hd k)
 have h4 := Sv.pw_pos (B := 1000000000) (by decide) k
 have h5 : Sv.vl 1000000000 (l.drop k) = 0 := by
  rcases (show Sv.vl 1000000000 (l.drop k) = 0 ∨ 1 ≤ Sv.vl 1000000000 (l.drop k) by omega) with h | h
  ·exact h
  ·have := Int.mul_le_mul_of_nonneg_left h (show 0 ≤ Sv.pw 1000000000 k by omega)
   omega
 rw [h5, Int.mul_zero] at h1
 exact ⟨h5, by omega⟩
theorem bi_estW (u v : List Int) (hu : Sv.Digs 1000000000 u) (hv : Sv.Digs 1000000000 v) (n : Nat) (hn : v.length = n + 2) (j : Nat) (hj : j + (n + 3) ≤ u.length) (hb : u.length ≤ 1000000000000) (h1 : 1 ≤ v.getD (n + 1) 0)
  (hlt : Sv.vl 1000000000 (u.drop j) < 1000000000 * Sv.vl 1000000000 v) :
  ∃ u', Ev (fun k => bIestimateW.f k u j v) (Sv.vl 1000000000 (u.drop j) / Sv.vl 1000000000 v, u') ∧ u'.length = u.length ∧ Sv.Digs 1000000000 u' ∧ Sv.vl 1000000000 (u'.drop j) = Sv.vl 1000000000 (u.drop j) % Sv.vl 1000000000 v ∧ Sv.vl 1000000000 u' = Sv.vl 1000000000 (u.take j) + Sv.pw 1000000000 j * (Sv.vl 1000000000 (u.drop j) % Sv.vl 1000000000 v) := by
 have hdj := Sv.d_drop hu j
 have hV := Sv.v_lt (B := 1000000000) (by decide) hv
 rw [hn] at hV
 have hp : Sv.pw 1000000000 (n + 3) = 1000000000 * Sv.pw 1000000000 (n + 2) := Sv.pw_s _ _
 obtain ⟨z, e⟩ := vl_small hdj (n + 3) (by rw [List.length_drop]; omega) (by omega)
 have hlw : ((u.drop j).take (n + 3)).length = n + 3 := by rw [List.length_take, List.length_drop]; omega
 obtain ⟨w, f1, f2, f3, f4⟩ := bi_estimate ((u.drop j).take (n + 3)) v (Sv.d_take hdj _) hv n hn hlw (by omega) h1 (by rw [e]; exact hlt)
 rw [e] at f1 f4
 rw [hlw] at f2
 have hz : Sv.vl 1000000000 (u.drop (j + (n + 3))) = 0 := by rw [← List.drop_drop]; exact z
 refine ⟨u.take j ++ w ++ u.drop (j + (n + 3)), ?_, ?_, ?_, ?_, ?_⟩
 ·unfold bIestimateW.f
  rw [hn, Int.toNat_natCast]
  exact Ev.pos ⟨by omega, by omega⟩ (Ev.bind f1 (Ev.of rfl))
 ·rw [List.length_append, List.length_append, List.length_take, List.length_drop, f2]; omega
 ·exact ((Sv.d_take hu j).append f3).append (Sv.d_drop hu _)
 ·have : (u.take j ++ w ++ u.drop (j + (n + 3))).drop j = w ++ u.drop (j + (n + 3)) := by
   rw [List.append_assoc]
   exact List.drop_left' (by rw [List.length_take]; omega)
  rw [this, Sv.v_app, hz, Int.mul_zero, Int.add_zero, f4]
 ·rw [List.append_assoc, Sv.v_app, Sv.v_app, hz, Int.mul_zero, Int.add_zero, f4, List.length_take, Nat.min_eq_left (by omega)]
theorem div_l1 (v : List Int) (hv : Sv.Digs 1000000000 v) (n : Nat) (hn : v.length = n + 2) (h1 : 1 ≤ v.getD (n + 1) 0) (V T s : Nat) (hV : Sv.vl 1000000000 v = V) (hV0 : 0 < V) (hs0 : 0 < s) (hs1 : s < 1000000000) (m : Nat) (hm : m ≤ 1000000000000) (hmn : n + 2 ≤ m) (i : Nat) :
  ∀ (u out : List Int), u.length = m → out.length = m - (n + 2) → i ≤ m - (n + 2) → Sv.Digs 1000000000 u → Sv.Digs 1000000000 out → (∀ p, p < i → out.getD p 0 = 0) → Sv.vl 1000000000 (u.drop i) < V →
   (T : Int) = V * (Sv.pw 1000000000 i * Sv.vl 1000000000 (out.drop i)) + Sv.vl 1000000000 u →
   Ev (fun k => bIdivide.l1 k [(s : Int)] u v out ((i : Int) - 1)) (mag (T / V), mag (T % V / s)) := by
 induction i with
 | zero =>
  intro u out hu ho hi hdu hdo hz hlt hT
  refine Ev.succ ?_
  simp only [bIdivide.l1]
  rw [List.drop_zero] at hlt hT
  rw [Sv.pw_zero, Int.one_mul] at hT
  obtain ⟨e1, e2⟩ := div_of (by omega) hT (Sv.vl_nonneg (by decide) hdu) hlt
  have c1 : Sv.cut u = mag (T % V) := cut_mag hdu (by rw [← e2]; rfl)
  have c2 : Sv.cut out = mag (T / V) := cut_mag hdo (by rw [← e1]; rfl)
  refine Ev.neg (by omega) (Ev.bind (bi_trim u (by omega)) (Ev.pos (by simp) ?_))
  rw [c1]
  have hl : (mag (T % V)).length ≤ 1000000000000 := by
   rw [← c1]
   obtain ⟨k, hk⟩ := Sv.cut_spec u
   have := congrArg List.length hk
   rw [List.length_append] at this
   omega
  refine Ev.bind (bi_short (T % V) s hs0 hs1 hl) (Ev.bind (bi_trim out (by omega)) (Ev.of ?_))
  rw [c2]
 | succ j ih =>
  intro u out hu ho hi hdu hdo hz hlt hT
  have ed := drop_s u j (by omega)
  have hA : Sv.vl 1000000000 (u.drop j) < 1000000000 * Sv.vl 1000000000 v := by
   have := Sv.g_digs (B := 1000000000) (by decide) hdu j
   rw [hV]
   omega
  obtain ⟨u', f1, f2, f3, f4, f5⟩ := bi_estW u v hdu hv n hn j (by omega) (by omega) h1 hA
  have eo := drop_s (out.set j (Sv.vl 1000000000 (u.drop j) / Sv.vl 1000000000 v)) j (by rw [List.length_set]; omega)
  have e2 : (out.set j (Sv.vl 1000000000 (u.drop j) / Sv.vl 1000000000 v)).drop (j + 1) = out.drop (j + 1) := List.drop_set_of_lt (by omega)
  rw [Sv.g_set_eq _ _ _ (by omega), e2] at eo
  have hA0 := Sv.vl_nonneg (B := 1000000000) (by decide) (Sv.d_drop hdu j)
  have q0 := Int.ediv_nonneg hA0 (show 0 ≤ Sv.vl 1000000000 v by omega)
  have q1 : Sv.vl 1000000000 (u.drop j) / Sv.vl 1000000000 v < 1000000000 := Int.ediv_lt_of_lt_mul (by omega) hA
  have m1 := Int.emod_lt_of_pos (Sv.vl 1000000000 (u.drop j)) (show 0 < Sv.vl 1000000000 v by omega)
  have hdm := Int.mul_ediv_add_emod (Sv.vl 1000000000 (u.drop j)) (Sv.vl 1000000000 v)
  have hsp := Sv.v_split 1000000000 u j (by omega)
  refine Ev.succ ?_
  simp only [bIdivide.l1]
  rw [show ((j + 1 : Nat) : Int) - 1 = (j : Int) by omega]
  refine Ev.pos (by omega) (Ev.bind f1 (Ev.pos (by omega) (Ev.pos (by omega) ?_)))
  rw [(w64 (by omega) (by omega) : wrap64 ((j : Int) - 1) = (j : Int) - 1), Int.toNat_natCast]
  dsimp only
  refine ih u' _ (by omega) (by rw [List.length_set]; exact ho) (by omega) f3 (Sv.d_set hdo _ q0 q1) (fun p hp => ?_) (by omega) ?_
  ·rw [Sv.g_set _ _ _ _ (by omega)]; exact hz p (by omega)
  ·rw [hT, eo, f5, hsp, Sv.pw_s]
   rw [hV] at hdm ⊢
   generalize Sv.vl 1000000000 (u.drop j) = A at *
   generalize A / (V : Int) = Q at *
   generalize A % (V : Int) = M at *
   rw [← hdm]
   generalize Sv.pw 1000000000 j = I at *
   generalize Sv.vl 1000000000 (out.drop (j + 1)) = O at *
   generalize Sv.vl 1000000000 (u.take j) = X at *
   generalize (V : Int) = W
   clear ih hT eo f1 f2 f3 f4 f5 hsp hdm m1 q0 q1 hA0 hA ed
   grind
theorem div_l0 (x0 v : List Int) (hv : Sv.Digs 1000000000 v) (n : Nat) (hn : v.length = n + 2) (hvz : Sv.NoZ v) (V T s : Nat) (hV : Sv.vl 1000000000 v = V) (hs0 : 0 < s) (hs1 : s < 1000000000) (hx : x0.length ≤ 100000000000) (d : Nat) :
  ∀ (u1 : List Int), x0.length - u1.length = d → u1.length ≤ 200000000000 → n + 1 ≤ u1.length → Sv.Digs 1000000000 u1 → Sv.vl 1000000000 u1 = T →
   Ev (fun k => bIdivide.l0 k x0 [(s : Int)] (u1 ++ [0]) v) (mag (T / V), mag (T % V / s)) := by
 have hvl : v ≠ [] := by intro e; rw [e] at hn; simp at hn
 have hvp := Sv.v_pos (B := 1000000000) (by decide) hv hvz hvl
 rw [hn] at hvp
 have h1 : 1 ≤ v.getD (n + 1) 0 := by
  have g := Sv.g_digs (B := 1000000000) (by decide) hv (n + 1)
  have : v.getD (n + 1) 0 ≠ 0 := by
   intro e
   apply hvz
   rw [List.getLast?_eq_getElem?, hn, show n + 2 - 1 = n + 1 by omega, List.getElem?_eq_getElem (by omega)]
   simp only [List.getD, List.getElem?_eq_getElem (show n + 1 < v.length by omega), Option.getD_some] at e
   rw [e]
  omega
 have pp := Sv.pw_pos (B := 1000000000) (by decide) (n + 2 - 1)
 induction d with
 | zero =>
  intro u1 hd hb hnu hdu hT
  refine Ev.succ ?_
  simp only [bIdivide.l0]
  have hl : (u1 ++ [0]).length = u1.length + 1 := by simp
  rw [hl, hn, (w64n (n := u1.length + 1 - (n + 2)) (by omega) (by omega) : wrap64 (((u1.length + 1 : Nat) : Int) - ((n + 2 : Nat) : Int)) = _), Int.toNat_natCast, (w64 (by omega) (by omega) : wrap64 (((u1.length + 1 - (n + 2) : Nat) : Int) - 1) = ((u1.length + 1 - (n + 2) : Nat) : Int) - 1)]
  refine Ev.neg (by omega) (Ev.pos (by omega) (Ev.pos (by omega) ?_))
  have ed : (u1 ++ [0]).drop (u1.length + 1 - (n + 2)) = u1.drop (u1.length + 1 - (n + 2)) ++ [0] := List.drop_append_of_le_length (by omega)
  have hd0 : Sv.Digs 1000000000 (u1 ++ [0]) := hdu.append (Sv.Digs.cons (by omega) (by omega) (Sv.Digs.nil _))
  refine div_l1 v hv n hn h1 V T s hV (by omega) hs0 hs1 (u1.length + 1) (by omega) (by omega) _ _ _ hl (by simp) (Nat.le_refl _) hd0 (Sv.d_rep (by decide) _) (fun p _ => Sv.g_rep _ _) ?_ ?_
  ·rw [ed, Sv.v_app, Sv.vl_cons, Sv.vl_nil, Int.mul_zero, Int.add_zero, Int.mul_zero, Int.add_zero]
   have := Sv.v_lt (B := 1000000000) (by decide) (Sv.d_drop hdu (u1.length + 1 - (n + 2)))
   rw [List.length_drop, show u1.length - (u1.length + 1 - (n + 2)) = n + 2 - 1 by omega] at this
   omega
  ·have e : (List.replicate (u1.length + 1 - (n + 2)) (0 : Int)).drop (u1.length + 1 - (n + 2)) = [] := List.drop_of_length_le (by simp)
   rw [e, Sv.vl_nil, Int.mul_zero, Int.mul_zero, Sv.v_app, Sv.vl_cons, Sv.vl_nil, hT]
   omega
 | succ d ih =>
  intro u1 hd hb hnu hdu hT
  have hd0 : Sv.Digs 1000000000 (u1 ++ [0]) := hdu.append (Sv.Digs.cons (by omega) (by omega) (Sv.Digs.nil _))
  refine Ev.succ ?_
  simp only [bIdivide.l0]
  have hl : (u1 ++ [0]).length = u1.length + 1 := by simp
  have hv0 : Sv.vl 1000000000 (u1 ++ [0]) = T := by
   rw [Sv.v_app, Sv.vl_cons, Sv.vl_nil, hT]; omega
  refine Ev.pos (by omega) (Ev.pos (by omega) ?_)
  exact ih (u1 ++ [0]) (by omega) (by omega) (by omega) hd0 hv0
theorem mag_one {s : Nat} (h0 : 0 < s) (h1 : s < 1000000000) : mag s = [(s : Int)] := by
 show Sv.dg 1000000000 s = _
 rw [Sv.dg_pos (by omega) h0, Nat.div_eq_of_lt h1, Sv.dg_zero, Nat.mod_eq_of_lt h1]
theorem getD_top {m : Nat} (h : 0 < m) : 1 ≤ (mag m).getD ((mag m).length - 1) 0 ∧ (mag m).getD ((mag m).length - 1) 0 < 1000000000 := by
 have hl : 0 < (mag m).length := List.length_pos_iff.2 (mag_ne h)
 have g := Sv.g_digs (B := 1000000000) (by decide) (mag_digs m) ((mag m).length - 1)
 have : (mag m).getD ((mag m).length - 1) 0 ≠ 0 := by
  intro e
  apply mag_noz m
  rw [List.getLast?_eq_getElem?, List.getElem?_eq_getElem (by omega)]
  simp only [List.getD, List.getElem?_eq_getElem (show (mag m).length - 1 < (mag m).length by omega), Option.getD_some] at e
  rw [e]
 omega
theorem mag_mul_len (m s : Nat) (hs : s < 1000000000) : (mag (m * s)).length ≤ (mag m).length + 1 := by
 refine Sv.dg_length_le (by omega) ?_
 have h := Sv.lt_of_dg_length (b := 1000000000) (by omega) m
 rw [Nat.pow_succ]
 exact Nat.mul_lt_mul'' h hs
theorem bi_divide (x y : Nat) (hy : 0 < y) (hx : (mag x).length ≤ 10000000000) (hyl : (mag y).length ≤ 10000000000) : Ev (fun k => bIdivide.f k (mag x) (mag y)) (mag (x / y), mag (x % y)) := by
 obtain ⟨t, ht, hlt⟩ := bi_order x y (by omega) (by omega)
 unfold bIdivide.f
 refine Ev.bs ht ?_
 by_cases h : t < 0
 ·refine Ev.pos h (Ev.of ?_)
  have hxy := hlt.1 h
  rw [Nat.div_eq_of_lt hxy, Nat.mod_eq_of_lt hxy, mag_zero]
 ·refine Ev.neg h ?_
  have hxy : y ≤ x := by have := mt hlt.2 h; omega
  have hl0 : 0 < (mag y).length := List.length_pos_iff.2 (mag_ne hy)
  by_cases h1 : (mag y).length = 1
  ·have hyB : y < 1000000000 := by
    have := Sv.lt_of_dg_length (b := 1000000000) (by omega) y
    rw [show (Sv.dg 1000000000 y).length = 1 from h1, Nat.pow_one] at this
    exact this
   have e0 : rd (mag y) 0 = (y : Int) := by rw [mag_one hy hyB]; rfl
   rw [e0]
   refine Ev.pos (by omega) (Ev.pos (by omega) (Ev.bind (bi_short x y hy hyB (by omega)) ?_))
   have hm := Nat.mod_lt x hy
   refine Ev.bind (bi_trim _ (by simp)) (Ev.of ?_)
   rw [cut_mag (n := x % y) (Sv.Digs.cons (by omega) (by omega) (Sv.Digs.nil _)) (by rw [Sv.vl_cons, Sv.vl_nil]; omega)]
  ·obtain ⟨g0, g1⟩ := getD_top hy
   obtain ⟨n, hn⟩ : ∃ n, (mag y).length = n + 2 := ⟨(mag y).length - 2, by omega⟩
   rw [hn, show n + 2 - 1 = n + 1 by omega] at g0 g1
   obtain ⟨top, htop⟩ := Int.eq_ofNat_of_zero_le (show 0 ≤ (mag y).getD (n + 1) 0 by omega)
   obtain ⟨s, hs⟩ : ∃ s : Nat, s = 1000000000 / (top + 1) := ⟨_, rfl⟩
   have hs0 : 0 < s := by rw [hs]; exact Nat.div_pos (by omega) (by omega)
   have hs1 : s < 1000000000 := by
    have : s ≤ 1000000000 / 2 := by rw [hs]; exact Nat.div_le_div_left (by omega) (by omega)
    omega
   have hsi : Int.tdiv 1000000000 ((top : Int) + 1) = (s : Int) := by
    rw [Int.tdiv_eq_ediv_of_nonneg (by omega), hs]; rfl
   have l1 := mag_mul_len x s hs1
   have l2 := mag_mul_len y s hs1
   rw [hn, (w64n (by omega) (by omega) : wrap64 (((n + 2 : Nat) : Int) - 1) = ((n + 1 : Nat) : Int)), rd_nat, htop, (w64 (by omega) (by omega) : wrap64 ((top : Int) + 1) = (top : Int) + 1), hsi, (w64 (by omega) (by omega) : wrap64 (s : Int) = (s : Int))]
   refine Ev.neg (by omega) (Ev.pos (by omega) (Ev.pos (by omega) (Ev.neg (by omega) (Ev.bs rfl ?_))))
   rw [← mag_one hs0 hs1]
   refine Ev.bind (bi_times x s (by rw [mag_one hs0 hs1]; simp; omega)) (Ev.pos (by omega) (Ev.bind (bi_times y s (by rw [mag_one hs0 hs1]; simp; omega)) ?_))
   have hys : y ≤ y * s := Nat.le_mul_of_pos_right _ hs0
   have hxs : y * s ≤ x * s := Nat.mul_le_mul_right _ hxy
   have m1 := mag_mono hys
   have m2 := mag_mono hxs
   rw [mag_one hs0 hs1]
   obtain ⟨n', hn'⟩ : ∃ n', (mag (y * s)).length = n' + 2 := ⟨(mag (y * s)).length - 2, by omega⟩
   refine (div_l0 (mag x) (mag (y * s)) (mag_digs _) n' hn' (mag_noz _) (y * s) (x * s) s (vl_mag _) hs0 hs1 (by omega) _ (mag (x * s)) rfl (by omega) (by omega) (mag_digs _) (vl_mag _)).eq ?_
   rw [Nat.mul_div_mul_right _ _ hs0, Nat.mul_mod_mul_right, Nat.mul_div_cancel _ hs0]
set_option linter.unusedVariables false
set_option linter.unusedSimpArgs false
def sv (b : Bool) (N : Nat) : Int := if b = true then -(N : Int) else N
theorem sv_abs (b : Bool) (N : Nat) : (sv b N).natAbs = N := by unfold sv; split <;> omega
theorem sv_of (n : Int) : sv (decide (n < 0)) n.natAbs = n := by
 unfold sv
 by_cases h : n < 0
 ·rw [if_pos (decide_eq_true h)]; omega
 ·rw [if_neg (by simpa using h)]; omega
theorem mag_len_nd (n : Int) : (mag n.natAbs).length ≤ Sv.nd n := by
 refine Sv.dg_length_le (by omega) (Nat.lt_of_lt_of_le (natAbs_lt_nd n) ?_)
 exact Nat.pow_le_pow_left (by omega) _
theorem mag_len_lt {N : Nat} {k : Nat} (h : N < 1000000000 ^ k) : (mag N).length ≤ k := Sv.dg_length_le (by omega) h
theorem lt_mag_len (N : Nat) : N < 1000000000 ^ (mag N).length := Sv.lt_of_dg_length (b := 1000000000) (by omega) N
theorem mag_add_len (M N k : Nat) (hM : (mag M).length ≤ k) (hN : (mag N).length ≤ k) : (mag (M + N)).length ≤ k + 1 := by
 refine mag_len_lt ?_
 have h1 := Nat.lt_of_lt_of_le (lt_mag_len M) (Nat.pow_le_pow_right (by omega) hM)
 have h2 := Nat.lt_of_lt_of_le (lt_mag_len N) (Nat.pow_le_pow_right (by omega) hN)
 rw [Nat.pow_succ]
 omega
theorem mag_mul_len2 (M N : Nat) : (mag (M * N)).length ≤ (mag M).length + (mag N).length := by
 refine mag_len_lt ?_
 rw [Nat.pow_add]
 exact Nat.mul_lt_mul'' (lt_mag_len M) (lt_mag_len N)
theorem bi_sum (b0 : Bool) (M : Nat) (b1 : Bool) (N : Nat) (hM : (mag M).length ≤ 1000000000) (hN : (mag N).length ≤ 1000000000) :
  ∃ b P, Ev (fun k => bIsum.f k b0 (mag M) b1 (mag N)) (b, mag P) ∧ sv b P = sv b0 M + sv b1 N := by
 unfold bIsum.f
 by_cases h : b0 = b1
 ·subst h
  refine ⟨b0, M + N, Ev.pos rfl (Ev.bind (bi_plus M N (by omega) (by omega)) (Ev.of rfl)), ?_⟩
  unfold sv
  split <;> omega
 ·obtain ⟨t, ht, hlt⟩ := bi_order M N (by omega) (by omega)
  by_cases hc : t < 0
  ·have := hlt.1 hc
   refine ⟨!b0, N - M, Ev.neg h (Ev.bs ht ?_), ?_⟩
   ·simp only [if_pos hc]
    refine Ev.bind (bi_minus N M (by omega) (by omega)) (Ev.of ?_)
    rw [decide_eq_true hc, Bool.true_bne]
   ·unfold sv
    cases b0 <;> cases b1 <;> simp at h ⊢ <;> omega
  ·have := mt hlt.2 hc
   refine ⟨b0, M - N, Ev.neg h (Ev.bs ht ?_), ?_⟩
   ·simp only [if_neg hc]
    refine Ev.bind (bi_minus M N (by omega) (by omega)) (Ev.of ?_)
    rw [decide_eq_false hc, Bool.false_bne]
   ·unfold sv
    cases b0 <;> cases b1 <;> simp at h ⊢ <;> omega
theorem sv_not (b : Bool) (N : Nat) : sv (!b) N = -sv b N := by unfold sv; cases b <;> simp
theorem sv_mul (b0 b1 : Bool) (M N : Nat) : sv (b0 != b1) (M * N) = sv b0 M * sv b1 N := by
 unfold sv
 cases b0 <;> cases b1 <;> simp [Int.neg_mul, Int.mul_neg, Int.neg_mul_neg]
theorem bi_product (b0 : Bool) (M : Nat) (b1 : Bool) (N : Nat) (hM : (mag M).length ≤ 1000000000) (hN : (mag N).length ≤ 1000000000) :
  Ev (fun k => bIproduct.f k b0 (mag M) b1 (mag N)) (b0 != b1, mag (M * N)) := by
 unfold bIproduct.f
 exact Ev.bind (bi_times M N (by omega)) (Ev.of rfl)
theorem bi_sign (b : Bool) (N : Nat) : bIsign.f b (mag N) = some (sv b N).sign := by
 unfold bIsign.f sv
 by_cases h : N = 0
 ·subst h; rw [mag_zero]; cases b <;> rfl
 ·have := mt (mag_len0 N).1 h
  rw [if_neg (by omega)]
  cases b
  ·rw [if_neg (by simp), if_neg (by simp), Int.sign_eq_one_of_pos (by omega)]
  ·rw [if_pos rfl, if_pos rfl, Int.sign_eq_neg_one_of_neg (by omega)]
theorem bi_quotient (b0 : Bool) (M : Nat) (b1 : Bool) (N : Nat) (hN0 : 0 < N) (hM : (mag M).length ≤ 1000000000) (hN : (mag N).length ≤ 1000000000) :
  ∃ b P c R, Ev (fun k => bIquotient.f k b0 (mag M) b1 (mag N)) (b, mag P, c, mag R) ∧ sv b P = (sv b0 M).fdiv (sv b1 N) ∧ sv c R = (sv b0 M).fmod (sv b1 N) ∧ P ≤ M + 1 ∧ R < N := by
 unfold bIquotient.f
 have hdm := Nat.div_add_mod M N
 have hmod := Nat.mod_lt M hN0
 have hq : M / N ≤ M := Nat.div_le_self _ _
 have hI : (N : Int) * ((M / N : Nat) : Int) + ((M % N : Nat) : Int) = M := by rw [← Int.natCast_mul]; omega
 have hdiv := bi_divide M N hN0 (by omega) (by omega)
 have hlq := mag_mono hq
 generalize M / N = Q at *
 generalize M % N = R at *
 by_cases h : b0 = b1
 ·subst h
  refine ⟨false, Q, b0, R, Ev.bind hdiv (Ev.pos (by simp) (Ev.of rfl)), ?_⟩
  have key : sv b0 M = sv b0 N * (Q : Int) + sv b0 R ∧ ((0 ≤ sv b0 R ∧ sv b0 R < sv b0 N) ∨ (sv b0 N < sv b0 R ∧ sv b0 R ≤ 0)) := by
   unfold sv
   cases b0
   ·simp only [Bool.false_eq_true, if_false]; omega
   ·simp only [if_true]; rw [Int.neg_mul]; omega
  obtain ⟨e1, e2⟩ := fdiv_uniq key.1 key.2
  exact ⟨by rw [e1]; rfl, e2.symm, by omega, hmod⟩
 ·by_cases hR : R = 0
  ·subst hR
   have hl : ¬ ((mag 0).length : Int) > 0 := by rw [mag_zero]; simp
   refine ⟨true, Q, b1, 0, Ev.bind hdiv (Ev.neg (by simpa using h) (Ev.neg hl (Ev.of rfl))), ?_⟩
   have key : sv b0 M = sv b1 N * (-(Q : Int)) + 0 := by
    unfold sv
    cases b0 <;> cases b1 <;> simp [Int.neg_mul, Int.mul_neg, Int.neg_mul_neg] at h ⊢ <;> omega
   have hn0 : sv b1 N ≠ 0 := by unfold sv; split <;> omega
   obtain ⟨e1, e2⟩ := fdiv_uniq key (by omega)
   refine ⟨by rw [e1]; rfl, ?_, by omega, by omega⟩
   rw [e2]; unfold sv; split <;> omega
  ·have hl : ((mag R).length : Int) > 0 := by have := mt (mag_len0 R).1 hR; omega
   have m1 : ([1] : List Int) = mag 1 := (mag_one (s := 1) (by omega) (by omega)).symm
   refine ⟨true, Q + 1, b1, N - R, Ev.bind hdiv (Ev.neg (by simpa using h) (Ev.pos hl ?_)), ?_⟩
   ·rw [m1]
    exact Ev.bind (bi_plus Q 1 (by omega) (by rw [← m1]; simp)) (Ev.bind (bi_minus N R (by omega) (by omega)) (Ev.of rfl))
   ·have key : sv b0 M = sv b1 N * (-((Q + 1 : Nat) : Int)) + sv b1 (N - R) ∧ ((0 ≤ sv b1 (N - R) ∧ sv b1 (N - R) < sv b1 N) ∨ (sv b1 N < sv b1 (N - R) ∧ sv b1 (N - R) ≤ 0)) := by
     have e : (N : Int) * ((Q + 1 : Nat) : Int) = N * Q + N := by rw [Int.natCast_add, Int.mul_add]; simp
     unfold sv
     cases b0 <;> cases b1 <;> simp at h
     ·simp only [Bool.false_eq_true, if_false, if_true]; rw [Int.neg_mul_neg, e]; omega
     ·simp only [Bool.false_eq_true, if_false, if_true]; rw [Int.mul_neg, e]; omega
    obtain ⟨e1, e2⟩ := fdiv_uniq key.1 key.2
    exact ⟨by rw [e1]; rfl, e2.symm, by omega, by omega⟩
theorem bi_common_l (y : Nat) : ∀ x : Nat, (mag x).length ≤ 1000000000 → (mag y).length ≤ 1000000000 → Ev (fun k => bIcommon.l0 k (mag x) (mag y)) (mag (Nat.gcd x y)) := by
 induction y using Nat.strongRecOn with
 | ind y ih =>
  intro x hx hy
  refine Ev.succ ?_
  simp only [bIcommon.l0]
  by_cases h : y = 0
  ·subst h
   refine Ev.neg (by rw [mag_zero]; simp) (Ev.of ?_)
   rw [Nat.gcd_zero_right]
  ·refine Ev.pos (by have := mt (mag_len0 y).1 h; omega) (Ev.bind (bi_divide x y (by omega) (by omega) (by omega)) ?_)
   have hlt := Nat.mod_lt x (show 0 < y by omega)
   refine (ih (x % y) hlt y hy (Nat.le_trans (mag_mono (by omega)) hy)).eq ?_
   congr 1
   rw [Nat.gcd_comm x y, Nat.gcd_rec y x, Nat.gcd_comm]
theorem bi_common (x y : Nat) (hx : (mag x).length ≤ 1000000000) (hy : (mag y).length ≤ 1000000000) : Ev (fun k => bIcommon.f k (mag x) (mag y)) (mag (Nat.gcd x y)) := bi_common_l y x hx hy
theorem small_size {n : Int} (h : Sv.nd n ≤ 4096) : (Sv.txt n).size ≤ 4097 := by rw [Sv.txt_size]; split <;> omega
theorem bi_pair (m n : Int) (hm : Sv.nd m ≤ 4096) (hn : Sv.nd n ≤ 4096) : Ev (fun k => bIpair.f k (Sv.txt m) (Sv.txt n)) (decide (m < 0), mag m.natAbs, decide (n < 0), mag n.natAbs, 0) := by
 unfold bIpair.f
 have s1 := small_size hm
 have s2 := small_size hn
 refine Ev.bs (bi_Check _ (by omega)) (Ev.pos (chkI_small hm) (Ev.bs (bi_Check _ (by omega)) (Ev.pos (chkI_small hn) ?_)))
 exact Ev.bind (bi_read m (by omega)) (Ev.bind (bi_read n (by omega)) (Ev.of rfl))
theorem len_of_nd {n : Int} (h : Sv.nd n ≤ 4096) : (mag n.natAbs).length ≤ 4096 := Nat.le_trans (mag_len_nd n) h
theorem sum_len {b : Bool} {P : Nat} {m n : Int} (h : sv b P = m + n) (hm : Sv.nd m ≤ 4096) (hn : Sv.nd n ≤ 4096) : (mag P).length ≤ 4097 := by
 have h1 := sv_abs b P
 rw [h] at h1
 have h2 := mag_add_len _ _ 4096 (len_of_nd hm) (len_of_nd hn)
 exact Nat.le_trans (mag_mono (show P ≤ m.natAbs + n.natAbs by omega)) h2
theorem bi_Add (m n : Int) (hm : Sv.nd m ≤ 4096) (hn : Sv.nd n ≤ 4096) : Ev (fun k => bIAdd.f k (Sv.txt m) (Sv.txt n)) (lim (m + n)) := by
 unfold bIAdd.f
 have l1 := len_of_nd hm
 have l2 := len_of_nd hn
 obtain ⟨b, P, h1, h2⟩ := bi_sum (decide (m < 0)) m.natAbs (decide (n < 0)) n.natAbs (by omega) (by omega)
 rw [sv_of, sv_of] at h2
 have l3 := sum_len h2 hm hn
 refine Ev.bind (bi_pair m n hm hn) (Ev.pos rfl (Ev.bind h1 (Ev.bs (bi_written b P (by omega)) (Ev.of ?_))))
 rw [← h2]; rfl
theorem bi_negated (b : Bool) (l : List Int) : bInegated.f b l = some (!b, l) := rfl
theorem bi_Sub (m n : Int) (hm : Sv.nd m ≤ 4096) (hn : Sv.nd n ≤ 4096) : Ev (fun k => bISub.f k (Sv.txt m) (Sv.txt n)) (lim (m - n)) := by
 unfold bISub.f
 have l1 := len_of_nd hm
 have l2 := len_of_nd hn
 obtain ⟨b, P, h1, h2⟩ := bi_sum (decide (m < 0)) m.natAbs (!decide (n < 0)) n.natAbs (by omega) (by omega)
 rw [sv_not, sv_of, sv_of] at h2
 have l3 := sum_len h2 hm (by rw [Sv.nd_neg]; exact hn)
 refine Ev.bind (bi_pair m n hm hn) (Ev.pos rfl (Ev.bs (bi_negated _ _) (Ev.bind h1 (Ev.bs (bi_written b P (by omega)) (Ev.of ?_)))))
 rw [Int.sub_eq_add_neg, ← h2]; rfl
theorem bi_Compare (m n : Int) (hm : Sv.nd m ≤ 4096) (hn : Sv.nd n ≤ 4096) : Ev (fun k => bICompare.f k (Sv.txt m) (Sv.txt n)) ((m - n).sign, 0) := by
 unfold bICompare.f
 have l1 := len_of_nd hm
 have l2 := len_of_nd hn
 obtain ⟨b, P, h1, h2⟩ := bi_sum (decide (m < 0)) m.natAbs (!decide (n < 0)) n.natAbs (by omega) (by omega)
 rw [sv_not, sv_of, sv_of] at h2
 refine Ev.bind (bi_pair m n hm hn) (Ev.pos rfl (Ev.bs (bi_negated _ _) (Ev.bind h1 (Ev.bs (bi_sign b P) (Ev.of ?_)))))
 rw [Int.sub_eq_add_neg, ← h2]
theorem nd0 : Sv.nd 0 ≤ 4096 := Nat.le_trans (Sv.nd_le (k := 1) (by omega) (by decide)) (by omega)
theorem bi_Sign (n : Int) (hn : Sv.nd n ≤ 4096) : Ev (fun k => bISign.f k (Sv.txt n)) (n.sign, 0) := by
 unfold bISign.f
 have := bi_Compare n 0 hn nd0
 rw [Int.sub_zero] at this
 exact Ev.bind this (Ev.of rfl)
theorem lim_small {n : Int} (h : Sv.nd n ≤ 4096) : lim n = (Sv.txt n, 0) := if_pos h
theorem bi_Neg (n : Int) (hn : Sv.nd n ≤ 4096) : Ev (fun k => bINeg.f k (Sv.txt n)) (Sv.txt (-n), 0) := by
 unfold bINeg.f
 have := bi_Sub 0 n nd0 hn
 rw [Int.zero_sub, lim_small (by rw [Sv.nd_neg]; exact hn)] at this
 exact Ev.bind this (Ev.of rfl)
theorem bi_Abs (n : Int) (hn : Sv.nd n ≤ 4096) : bIAbs.f (Sv.txt n) = some (Sv.txt n.natAbs, 0) := by
 have s1 := small_size hn
 unfold bIAbs.f
 rw [bi_Check _ (by omega), Option.bind_some, if_pos (chkI_small hn), trimP_txt n (by omega)]
 rfl
theorem bi_Mul (m n : Int) (hm : Sv.nd m ≤ 4096) (hn : Sv.nd n ≤ 4096) : Ev (fun k => bIMul.f k (Sv.txt m) (Sv.txt n)) (lim (m * n)) := by
 unfold bIMul.f
 have l1 := len_of_nd hm
 have l2 := len_of_nd hn
 have l3 := mag_mul_len2 m.natAbs n.natAbs
 refine Ev.bind (bi_pair m n hm hn) (Ev.pos rfl (Ev.bind (bi_product _ _ _ _ (by omega) (by omega)) (Ev.bs (bi_written _ _ (by omega)) (Ev.of ?_))))
 have := sv_mul (decide (m < 0)) (decide (n < 0)) m.natAbs n.natAbs
 rw [sv_of, sv_of] at this
 rw [← this]; rfl
theorem bi_divided (m n : Int) (h0 : n ≠ 0) (hm : Sv.nd m ≤ 4096) (hn : Sv.nd n ≤ 4096) : Ev (fun k => bIdivided.f k (Sv.txt m) (Sv.txt n)) (Sv.txt (m.fdiv n), Sv.txt (m.fmod n), 0) := by
 unfold bIdivided.f
 have l1 := len_of_nd hm
 have l2 := len_of_nd hn
 obtain ⟨b, P, c, R, h1, h2, h3, h4, h5⟩ := bi_quotient (decide (m < 0)) m.natAbs (decide (n < 0)) n.natAbs (by omega) (by omega) (by omega)
 rw [sv_of, sv_of] at h2 h3
 have h6 : (mag P).length ≤ 4097 := Nat.le_trans (mag_mono h4) (mag_add_len _ 1 4096 l1 (by rw [mag_one (s := 1) (by omega) (by omega)]; simp))
 have h7 : (mag R).length ≤ 4096 := Nat.le_trans (mag_mono (by omega)) l2
 have h8 := mt (mag_len0 n.natAbs).1 (by omega)
 refine Ev.bind (bi_pair m n hm hn) (Ev.pos rfl (Ev.neg (show ¬ ((mag n.natAbs).length : Int) = 0 by omega) (Ev.bind h1 (Ev.bs (bi_text b P (by omega)) (Ev.bs (bi_text c R (by omega)) (Ev.of ?_))))))
 rw [← h2, ← h3]; rfl
theorem bi_Quo (m n : Int) (h0 : n ≠ 0) (hm : Sv.nd m ≤ 4096) (hn : Sv.nd n ≤ 4096) : Ev (fun k => bIQuo.f k (Sv.txt m) (Sv.txt n)) (Sv.txt (m.fdiv n), 0) := by
 unfold bIQuo.f
 exact Ev.bind (bi_divided m n h0 hm hn) (Ev.of rfl)
theorem bi_Quo0 (m : Int) (hm : Sv.nd m ≤ 4096) : Ev (fun k => bIQuo.f k (Sv.txt m) (Sv.txt 0)) (⟨#[]⟩, 19) := by
 unfold bIQuo.f
 refine Ev.bind (x := ((⟨#[]⟩ : ByteArray), (⟨#[]⟩ : ByteArray), (19 : Int))) ?_ (Ev.of rfl)
 unfold bIdivided.f
 exact Ev.bind (bi_pair m 0 hm nd0) (Ev.pos rfl (Ev.pos (by rw [Int.natAbs_zero, mag_zero]; rfl) (Ev.of rfl)))
theorem bi_Gcd (m n : Int) (hm : Sv.nd m ≤ 4096) (hn : Sv.nd n ≤ 4096) : Ev (fun k => bIGcd.f k (Sv.txt m) (Sv.txt n)) (Sv.txt (Int.gcd m n), 0) := by
 unfold bIGcd.f
 have l1 := len_of_nd hm
 have l2 := len_of_nd hn
 have l3 : (mag (Nat.gcd m.natAbs n.natAbs)).length ≤ 4096 := by
  by_cases h : m.natAbs = 0
  ·rw [h, Nat.gcd_zero_left]; exact l2
  ·exact Nat.le_trans (mag_mono (Nat.gcd_le_left _ (by omega))) l1
 refine Ev.bind (bi_pair m n hm hn) (Ev.pos rfl (Ev.bind (bi_common _ _ (by omega) (by omega)) (Ev.bs (bi_text false _ (by omega)) (Ev.of rfl))))
theorem bi_Of (n : Int) (h0 : -9223372036854775808 ≤ n) (h1 : n ≤ 9223372036854775807) : bIOf.f n = some (Sv.txt n) := by
 unfold bIOf.f strconv_Itoa.f
 rw [if_pos ⟨h0, h1⟩]; rfl
end Go.Proofs.YtihbebbabjklkaaGreatDoor.PA
