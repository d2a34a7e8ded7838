import Derived.Test.YtihbebbabjklkaaGreatDoorAD
set_option linter.unusedVariables false
set_option linter.unusedSimpArgs false
namespace Go.Proofs.YtihbebbabjklkaaGreatDoor.PA
open Go.RowKit Go.Proofs.WWords
def Ev {α : Type} (f : Nat → Option α) (x : α) : Prop := ∃ n, ∀ k, n ≤ k → f k = some x
theorem Ev.of {α : Type} {o : Option α} {x : α} (h : o = some x) : Ev (fun _ => o) x := ⟨0, fun _ _ => h⟩
theorem Ev.bind {α β : Type} {f : Nat → Option α} {g : Nat → α → Option β} {x : α} {y : β} (hf : Ev f x) (hg : Ev (fun k => g k x) y) : Ev (fun k => (f k).bind (g k)) y := by
 obtain ⟨n, hn⟩ := hf
 obtain ⟨m, hm⟩ := hg
 exact ⟨max n m, fun k hk => by
  have h1 := hn k (by omega)
  have h2 := hm k (by omega)
  simp only [h1, Option.bind_some]
  exact h2⟩
theorem Ev.succ {α : Type} {f : Nat → Option α} {x : α} (h : Ev (fun k => f (k + 1)) x) : Ev f x := by
 obtain ⟨n, hn⟩ := h
 refine ⟨n + 1, fun k hk => ?_⟩
 obtain ⟨j, rfl⟩ : ∃ j, k = j + 1 := ⟨k - 1, by omega⟩
 exact hn j (by omega)
theorem w64 {n : Int} (h0 : -9223372036854775808 ≤ n) (h1 : n ≤ 9223372036854775807) : wrap64 n = n := by unfold wrap64; omega
theorem rd_nat (l : List Int) (i : Nat) : rd l (i : Int) = l.getD i 0 := by simp [rd]
theorem rd_get (l : List Int) (i : Nat) (h : i < l.length) : rd l (i : Int) = l[i] := by simp [rd, h]
theorem cut_ev (l : List Int) (hl : l.length ≤ 9223372036854775807) (i : Nat) (hi : i ≤ l.length) : Ev (fun k => rEcut.l0 k l i) (Sv.cut (l.take i)) := by
 induction i with
 | zero =>
  refine Ev.succ (Ev.of ?_)
  have : Sv.cut (l.take 0) = [] := Sv.cut_of_noz (by simp [Sv.NoZ])
  rw [this]
  simp [rEcut.l0]
 | succ i ih =>
  have hw : wrap64 (((i + 1 : Nat) : Int) - 1) = (i : Int) := by rw [w64 (by omega) (by omega)]; omega
  refine Ev.succ ?_
  have h1 : ((i + 1 : Nat) : Int) > 0 := by omega
  have h2 : (0 : Int) ≤ (i : Int) := by omega
  have h3 : (i : Int) < (l.length : Int) := by omega
  have h4 : (0 : Int) ≤ ((i + 1 : Nat) : Int) := by omega
  have h5 : ((i + 1 : Nat) : Int) ≤ (l.length : Int) := by omega
  simp only [rEcut.l0, hw, if_pos h1, if_pos h2, if_pos h3, if_pos h4, if_pos h5]
  have ht : l.take (i + 1) = l.take i ++ [l[i]] := List.take_succ_eq_append_getElem (by omega)
  rw [rd_get l i (by omega)]
  by_cases hz : l[i] = 0
  ·simp only [if_pos hz]
   rw [ht, hz, Sv.cut_snoc]
   exact ih (by omega)
  ·simp only [if_neg hz]
   refine Ev.of ?_
   rw [Sv.cut_of_noz]
   ·simp
   ·show (l.take (i + 1)).getLast? ≠ some 0
    rw [ht, List.getLast?_concat]
    simpa using hz
theorem ref_cut (l : List Int) (hl : l.length ≤ 9223372036854775807) : Ev (fun k => rEcut.f k l) (Sv.cut l) := by
 have := cut_ev l hl l.length (Nat.le_refl _)
 rw [List.take_length] at this
 exact this
theorem bt_nat (s : ByteArray) (i : Nat) (h : i < s.size) : bt s (i : Int) = ((s.data.toList[i]'(by rw [Array.length_toList]; exact h)).toNat : Int) := by
 have h' : ((i : Int)).toNat < s.size := by simpa using h
 unfold bt
 rw [dif_pos h']
 simp only [Int.toNat_natCast, Array.getElem_toList]
 rfl
theorem txt_size_pos (n : Int) : 0 < (Sv.txt n).size := by
 rw [Sv.txt_size]
 have := Sv.nd_pos n
 omega
theorem bt_txt0 (n : Int) : (bt (Sv.txt n) 0 = 45) ↔ n < 0 := by
 have h := bt_nat (Sv.txt n) 0 (txt_size_pos n)
 rw [show ((0 : Nat) : Int) = 0 from rfl] at h
 rw [h]
 have hh := Sv.txtN_head n.natAbs
 have he : (Sv.txt n).data.toList = Sv.txtL n := rfl
 have hg : ∀ (c : UInt8) , (Sv.txt n).data.toList.head? = some c → ((Sv.txt n).data.toList[0]'(by rw [Array.length_toList]; exact txt_size_pos n)) = c := by
  intro c hc
  rw [List.head?_eq_getElem?] at hc
  exact (List.getElem?_eq_some_iff.1 hc).2
 by_cases hn : n < 0
 ·have := hg 45 (by rw [he, Sv.txtL, if_pos hn]; rfl)
  rw [this]
  exact ⟨fun _ => hn, fun _ => rfl⟩
 ·refine ⟨fun e => absurd ?_ hh, fun e => absurd e hn⟩
  have h0 : 0 < (Sv.txt n).data.toList.length := by rw [Array.length_toList]; exact txt_size_pos n
  have e2 : (Sv.txt n).data.toList[0]'h0 = 45 := UInt8.toNat_inj.1 (by simpa using Int.ofNat_inj.1 (by simpa using e))
  have h3 : (Sv.txt n).data.toList.head? = some 45 := by rw [List.head?_eq_getElem?, List.getElem?_eq_getElem h0, e2]
  rw [he, Sv.txtL, if_neg hn] at h3
  exact h3
theorem ref_Negative (n : Int) : rENegative.f (Sv.txt n) = some (decide (n < 0)) := by
 have h := txt_size_pos n
 unfold rENegative.f
 rw [if_pos (by omega)]
 congr 1
 have := bt_txt0 n
 by_cases hn : n < 0 <;> simp [hn, this]
theorem ref_Digits (n : Int) (h : Sv.nd n ≤ 9223372036854775806) : rEDigits.f (Sv.txt n) = some (Sv.nd n : Int) := by
 unfold rEDigits.f
 rw [ref_Negative]
 simp only [Option.bind_some]
 have := Sv.txt_size n
 by_cases hn : n < 0
 ·simp only [decide_eq_true hn, if_pos]
  rw [if_pos hn] at this
  rw [this, w64 (by omega) (by omega)]
  congr 1
  omega
 ·simp only [decide_eq_false hn]
  rw [if_neg hn] at this
  simp [this]
theorem ref_short (n : Int) (k : Int) (h : Sv.nd n ≤ 9223372036854775806) : rEshort.f (Sv.txt n) k = some (decide ((Sv.nd n : Int) ≤ k)) := by
 unfold rEshort.f
 rw [ref_Digits n h]
 rfl
theorem txt_eq0 (n : Int) : (Sv.txt n).toList = ([48] : List UInt8) ↔ n = 0 := by
 rw [ByteArray.toList_eq]
 refine ⟨fun h => ?_, fun h => by subst h; decide⟩
 apply Sv.txt_inj.1
 show (⟨_⟩ : ByteArray) = ⟨_⟩
 congr 1
 apply Array.toList_inj.1
 exact h.trans (by decide)
theorem ref_Sign (n : Int) : rESign.f (Sv.txt n) = some n.sign := by
 unfold rESign.f
 by_cases h0 : n = 0
 ·rw [if_pos ((txt_eq0 n).2 h0), h0]; rfl
 ·rw [if_neg (fun e => h0 ((txt_eq0 n).1 e)), ref_Negative]
  simp only [Option.bind_some]
  by_cases hn : n < 0
  ·simp [decide_eq_true hn, Int.sign_eq_neg_one_of_neg hn]
  ·simp [decide_eq_false hn, Int.sign_eq_one_of_pos (show 0 < n by omega)]
theorem order_ev (a b : List Int) (hab : a.length = b.length) (hl : a.length ≤ 9223372036854775807) (i : Nat) (hi : i ≤ a.length) (hd : Sv.Digs 10 a) (hd2 : Sv.Digs 10 b) (he : a.drop i = b.drop i) :
  Ev (fun k => rEorder.l0 k a b ((i : Int) - 1)) (Sv.vl 10 a - Sv.vl 10 b).sign := by
 induction i with
 | zero =>
  refine Ev.succ (Ev.of ?_)
  have : a = b := by simpa using he
  subst this
  simp [rEorder.l0]
 | succ i ih =>
  refine Ev.succ ?_
  have e : ((i + 1 : Nat) : Int) - 1 = (i : Int) := by omega
  rw [e]
  have h2 : (0 : Int) ≤ (i : Int) := by omega
  have h3 : (i : Int) < (a.length : Int) := by omega
  have h4 : (i : Int) < (b.length : Int) := by omega
  have hw : wrap64 ((i : Int) - 1) = (i : Int) - 1 := w64 (by omega) (by omega)
  have h5 : (i : Int) ≥ 0 := h2
  have ha : i < a.length := by omega
  have hb : i < b.length := by omega
  simp only [rEorder.l0, if_pos h2, if_pos h3, if_pos h4, if_pos h5, hw, rd_get a i ha, rd_get b i hb]
  have ea : a.drop i = a[i] :: a.drop (i + 1) := List.drop_eq_getElem_cons ha
  have eb : b.drop i = b[i] :: b.drop (i + 1) := List.drop_eq_getElem_cons hb
  have ca : a = a.take i ++ a[i] :: a.drop (i + 1) := by rw [← ea, List.take_append_drop]
  have cb : b = b.take i ++ b[i] :: b.drop (i + 1) := by rw [← eb, List.take_append_drop]
  by_cases hz : a[i] = b[i]
  ·simp only [if_pos hz]
   exact ih (by omega) (by rw [ea, eb, hz, he])
  ·simp only [if_neg hz]
   have la : Sv.vl 10 (a.take i) < 10 ^ i ∧ 0 ≤ Sv.vl 10 (a.take i) := by
    have h1 : Sv.Digs 10 (a.take i) := fun x hx => hd x (List.mem_of_mem_take hx)
    have h2 := Sv.vl_lt (by omega) h1
    rw [List.length_take, Nat.min_eq_left (by omega)] at h2
    exact ⟨h2, Sv.vl_nonneg (by omega) h1⟩
   have lb : Sv.vl 10 (b.take i) < 10 ^ i ∧ 0 ≤ Sv.vl 10 (b.take i) := by
    have h1 : Sv.Digs 10 (b.take i) := fun x hx => hd2 x (List.mem_of_mem_take hx)
    have h2 := Sv.vl_lt (by omega) h1
    rw [List.length_take, Nat.min_eq_left (by omega)] at h2
    exact ⟨h2, Sv.vl_nonneg (by omega) h1⟩
   have va : Sv.vl 10 a = Sv.vl 10 (a.take i) + 10 ^ i * (a[i] + 10 * Sv.vl 10 (a.drop (i + 1))) := by
    conv => lhs; rw [ca]
    rw [Sv.vl_append, Sv.vl_cons, List.length_take, Nat.min_eq_left (by omega)]
   have vb : Sv.vl 10 b = Sv.vl 10 (b.take i) + 10 ^ i * (b[i] + 10 * Sv.vl 10 (b.drop (i + 1))) := by
    conv => lhs; rw [cb]
    rw [Sv.vl_append, Sv.vl_cons, List.length_take, Nat.min_eq_left (by omega)]
   have hp : (0 : Int) < 10 ^ i := Int.pow_pos (by omega)
   have hdiff : Sv.vl 10 a - Sv.vl 10 b = (Sv.vl 10 (a.take i) - Sv.vl 10 (b.take i)) + 10 ^ i * (a[i] - b[i]) := by
    rw [va, vb, he]; grind
   by_cases hlt : a[i] < b[i]
   ·simp only [if_pos hlt]
    refine Ev.of ?_
    have : Sv.vl 10 a - Sv.vl 10 b < 0 := by
     rw [hdiff]
     have : (10 : Int) ^ i * (a[i] - b[i]) ≤ 10 ^ i * (-1) := Int.mul_le_mul_of_nonneg_left (by omega) (by omega)
     omega
    rw [Int.sign_eq_neg_one_of_neg this]
   ·simp only [if_neg hlt]
    refine Ev.of ?_
    have : 0 < Sv.vl 10 a - Sv.vl 10 b := by
     rw [hdiff]
     have : (10 : Int) ^ i * 1 ≤ 10 ^ i * (a[i] - b[i]) := Int.mul_le_mul_of_nonneg_left (by omega) (by omega)
     omega
    rw [Int.sign_eq_one_of_pos this]
theorem vl_lt_of_len {a b : List Int} (ha : Sv.Digs 10 a) (hb : Sv.Digs 10 b) (hz : Sv.NoZ b) (h : a.length < b.length) : Sv.vl 10 a < Sv.vl 10 b := by
 have h1 := Sv.vl_lt (B := 10) (by omega) ha
 have h2 := Sv.vl_pos (B := 10) (by omega) hb hz (by intro e; subst e; simp at h)
 have h3 : (10 : Int) ^ a.length ≤ 10 ^ (b.length - 1) := by
  have := Nat.pow_le_pow_right (n := 10) (by omega) (show a.length ≤ b.length - 1 by omega)
  exact_mod_cast this
 omega
theorem ref_order (a b : List Int) (ha : Sv.Digs 10 a) (hb : Sv.Digs 10 b) (hza : Sv.NoZ a) (hzb : Sv.NoZ b) (hl : a.length ≤ 9223372036854775807) :
  Ev (fun k => rEorder.f k a b) (Sv.vl 10 a - Sv.vl 10 b).sign := by
 unfold rEorder.f
 by_cases h : a.length = b.length
 ·have h' : (a.length : Int) = (b.length : Int) := by omega
  simp only [if_pos h']
  rw [w64 (by omega) (by omega)]
  exact order_ev a b h hl a.length (Nat.le_refl _) ha hb (by rw [List.drop_length, h, List.drop_length])
 ·have h' : ¬ (a.length : Int) = (b.length : Int) := by omega
  simp only [if_neg h']
  refine Ev.of ?_
  by_cases hlt : a.length < b.length
  ·have h2 : (a.length : Int) < (b.length : Int) := by omega
   rw [if_pos h2, Int.sign_eq_neg_one_of_neg (by have := vl_lt_of_len ha hb hzb hlt; omega)]
  ·have h2 : ¬ (a.length : Int) < (b.length : Int) := by omega
   rw [if_neg h2, Int.sign_eq_one_of_pos (by have := vl_lt_of_len hb ha hza (by omega); omega)]
def dgs (n : Int) : List Int := (Sv.txtN n.natAbs).reverse.map Sv.chd
theorem dgs_zero : dgs 0 = [0] := by decide
theorem dgs_pos {n : Int} (h : n ≠ 0) : dgs n = Sv.dg 10 n.natAbs := by
 have hp := Sv.pos_txtN (n := n.natAbs) (by omega)
 have h1 := hp.digs'
 have h2 := hp.noz
 have h3 : Sv.vl 10 ((Sv.txtN n.natAbs).reverse.map Sv.chd) = n.natAbs := Sv.valN_txtN n.natAbs
 have := Sv.dg_vl (b := 10) (by omega) h1 h2
 unfold dgs
 rw [← this]
 congr 1
 rw [show ((10 : Nat) : Int) = 10 from rfl, h3]
 omega
theorem vl_dgs (n : Int) : Sv.vl 10 (dgs n) = n.natAbs := Sv.valN_txtN n.natAbs
theorem dgs_digs (n : Int) : Sv.Digs 10 (dgs n) := by
 by_cases h : n = 0
 ·subst h; rw [dgs_zero]; exact Sv.Digs.cons (by omega) (by omega) (Sv.Digs.nil _)
 ·rw [dgs_pos h]; exact Sv.dg_digs (b := 10) (by omega) _
theorem dgs_length (n : Int) : (dgs n).length = Sv.nd n := by
 unfold dgs
 rw [List.length_map, List.length_reverse, Sv.txtN_length, Sv.nd_natAbs]
theorem cut_dgs (n : Int) : Sv.cut (dgs n) = Sv.dg 10 n.natAbs := by
 rw [Sv.cut_eq_dg (b := 10) (by omega) (dgs_digs n)]
 congr 1
 rw [show ((10 : Nat) : Int) = 10 from rfl, vl_dgs]
 omega
def chm (c : UInt8) : Int := ((c.toNat : Int) - 48) % 256
theorem chm_eq {c : UInt8} (h0 : 48 ≤ c.toNat) : chm c = Sv.chd c := by
 unfold chm Sv.chd
 have := c.toNat_lt
 omega
theorem digits_ev (s : ByteArray) (i : Nat) : ∀ (acc : List Int), i ≤ s.size → s.size ≤ 9223372036854775807 → acc.length + i ≤ 17592186044416 →
  Ev (fun k => rEdigits.l0 k s acc ((i : Int) - 1)) (acc ++ ((s.data.toList.take i).reverse.takeWhile (fun c => c != 45)).map chm) := by
 induction i with
 | zero =>
  intro acc hi hs hl
  refine Ev.succ (Ev.of ?_)
  simp [rEdigits.l0]
 | succ i ih =>
  intro acc hi hs hl
  refine Ev.succ ?_
  have e : ((i + 1 : Nat) : Int) - 1 = (i : Int) := by omega
  rw [e]
  have h2 : (0 : Int) ≤ (i : Int) := by omega
  have h3 : (i : Int) < (s.size : Int) := by omega
  have hw : wrap64 ((i : Int) - 1) = (i : Int) - 1 := w64 (by omega) (by omega)
  have h5 : (i : Int) ≥ 0 := h2
  have hi' : i < s.data.toList.length := by rw [Array.length_toList]; exact hi
  have h6 : acc.length < 17592186044416 := by omega
  simp only [rEdigits.l0, if_pos h2, if_pos h3, if_pos h5, if_pos h6, hw, bt_nat s i (by omega)]
  have ht : s.data.toList.take (i + 1) = s.data.toList.take i ++ [s.data.toList[i]] := List.take_succ_eq_append_getElem hi'
  rw [ht, List.reverse_append]
  by_cases hz : s.data.toList[i] = 45
  ·have : ((s.data.toList[i]).toNat : Int) = 45 := by rw [hz]; rfl
   simp only [if_pos this]
   refine Ev.of ?_
   simp [hz]
  ·have : ¬ ((s.data.toList[i]).toNat : Int) = 45 := by
    intro e
    apply hz
    apply UInt8.toNat_inj.1
    have : (45 : UInt8).toNat = 45 := rfl
    omega
   simp only [if_neg this]
   have := ih (acc ++ [chm s.data.toList[i]]) (by omega) hs (by simp; omega)
   have hne : (s.data.toList[i] != 45) = true := by simpa using hz
   simp only [List.reverse_cons, List.reverse_nil, List.nil_append, List.cons_append, List.takeWhile_cons, hne, if_true, List.map_cons]
   rw [List.append_assoc] at this
   exact this
theorem txtN_mem {n : Nat} {c : UInt8} (h : c ∈ Sv.txtN n) : 48 ≤ c.toNat ∧ c.toNat ≤ 57 := by
 by_cases h0 : n = 0
 ·subst h0
  have : c = 48 := by simpa [Sv.txtN] using h
  subst this; decide
 ·exact (Sv.pos_txtN (by omega)).digs c h
theorem txtN_ne45 {n : Nat} {c : UInt8} (h : c ∈ Sv.txtN n) : (c != 45) = true := by
 have := (txtN_mem h).1
 rw [bne_iff_ne]
 rintro rfl
 exact absurd this (by decide)
theorem tw_txt (n : Int) : ((Sv.txtL n).reverse.takeWhile (fun c => c != 45)) = (Sv.txtN n.natAbs).reverse := by
 have h : (Sv.txtN n.natAbs).reverse.takeWhile (fun c => c != 45) = (Sv.txtN n.natAbs).reverse := by
  have := List.takeWhile_append_of_pos (p := fun c => c != 45) (l₁ := (Sv.txtN n.natAbs).reverse) (l₂ := []) (fun c hc => txtN_ne45 (List.mem_reverse.1 hc))
  simpa using this
 unfold Sv.txtL
 split
 ·rw [List.reverse_cons, List.takeWhile_append_of_pos (fun c hc => txtN_ne45 (List.mem_reverse.1 hc))]
  simp
 ·exact h
theorem ref_digits (n : Int) (h : Sv.nd n ≤ 10000000000000) : Ev (fun k => rEdigits.f k (Sv.txt n)) (dgs n) := by
 have hs := Sv.txt_size n
 have hs' : (Sv.txt n).size ≤ 10000000000001 := by rw [hs]; split <;> omega
 have hp := txt_size_pos n
 have := digits_ev (Sv.txt n) (Sv.txt n).size [] (Nat.le_refl _) (by omega) (by simp; omega)
 unfold rEdigits.f
 rw [w64 (by omega) (by omega)]
 rw [List.nil_append, List.take_of_length_le (by rw [Array.length_toList]; exact Nat.le_refl _), (show (Sv.txt n).data.toList = Sv.txtL n from rfl), tw_txt] at this
 have e : (Sv.txtN n.natAbs).reverse.map chm = dgs n := List.map_congr_left (fun c hc => chm_eq (txtN_mem (List.mem_reverse.1 hc)).1)
 rw [e] at this
 exact this
theorem valN_cons (c : UInt8) (l : List UInt8) : Sv.valN (c :: l) = Sv.chd c * 10 ^ l.length + Sv.valN l := by
 unfold Sv.valN
 rw [List.reverse_cons, List.map_append, Sv.vl_append]
 simp only [List.map_cons, List.map_nil, Sv.vl_cons, Sv.vl_nil, List.length_map, List.length_reverse]
 grind
theorem valN_nonneg {l : List UInt8} (h : ∀ c ∈ l, 48 ≤ c.toNat ∧ c.toNat ≤ 57) : 0 ≤ Sv.valN l := by
 refine Sv.vl_nonneg (by omega) ?_
 intro x hx
 obtain ⟨c, hc, rfl⟩ := List.mem_map.1 hx
 have := h c (List.mem_reverse.1 hc)
 unfold Sv.chd
 omega
theorem number_ev (s : ByteArray) (neg : Bool) (hn : rENegative.f s = some neg) (hs : s.size ≤ 9223372036854775806) (j : Nat) : ∀ (i : Nat) (acc : Int), i + j = s.size → (∀ c ∈ s.data.toList.drop i, 48 ≤ c.toNat ∧ c.toNat ≤ 57) → 0 ≤ acc →
  acc * 10 ^ j + Sv.valN (s.data.toList.drop i) ≤ 9223372036854775807 →
  Ev (fun k => rEnumber.l0 k s acc i) (if neg then -(acc * 10 ^ j + Sv.valN (s.data.toList.drop i)) else acc * 10 ^ j + Sv.valN (s.data.toList.drop i)) := by
 induction j with
 | zero =>
  intro i acc hi hd h0 hb
  refine Ev.succ ?_
  have h1 : ¬ (i : Int) < (s.size : Int) := by omega
  have h2 : s.data.toList.drop i = [] := List.drop_eq_nil_of_le (by rw [Array.length_toList]; show s.size ≤ i; omega)
  have hv : Sv.valN [] = 0 := rfl
  rw [h2, hv] at hb ⊢
  simp only [Int.pow_zero, Int.mul_one, Int.add_zero] at hb ⊢
  simp only [rEnumber.l0, if_neg h1, hn, Option.bind_some]
  refine Ev.of ?_
  cases neg
  ·rfl
  ·rw [if_pos rfl, if_pos rfl, w64 (by omega) (by omega)]
 | succ j ih =>
  intro i acc hi hd h0 hb
  refine Ev.succ ?_
  have hi' : i < s.data.toList.length := by rw [Array.length_toList]; show i < s.size; omega
  have ed : s.data.toList.drop i = s.data.toList[i] :: s.data.toList.drop (i + 1) := List.drop_eq_getElem_cons hi'
  have hc := hd s.data.toList[i] (by rw [ed]; simp)
  have hd' : ∀ c ∈ s.data.toList.drop (i + 1), 48 ≤ c.toNat ∧ c.toNat ≤ 57 := fun c hc => hd c (by rw [ed]; simp [hc])
  have hv0 := valN_nonneg hd'
  have hlen : (s.data.toList.drop (i + 1)).length = j := by rw [List.length_drop, Array.length_toList]; show s.size - (i + 1) = j; omega
  rw [ed, valN_cons, hlen] at hb ⊢
  have hch : Sv.chd s.data.toList[i] = ((s.data.toList[i]).toNat : Int) - 48 := rfl
  have h1 : (i : Int) < (s.size : Int) := by omega
  have h2 : (0 : Int) ≤ (i : Int) := by omega
  have h3 : ¬ ((s.data.toList[i]).toNat : Int) = 45 := by omega
  have hp : (1 : Int) ≤ 10 ^ j := Int.pow_pos (by omega)
  have hm : (((s.data.toList[i]).toNat : Int) - 48) % 256 = Sv.chd s.data.toList[i] := by omega
  have e1 : acc * 10 ^ (j + 1) + (Sv.chd s.data.toList[i] * 10 ^ j + Sv.valN (s.data.toList.drop (i + 1))) = (acc * 10 + Sv.chd s.data.toList[i]) * 10 ^ j + Sv.valN (s.data.toList.drop (i + 1)) := by
   rw [Int.pow_succ]; grind
  rw [e1] at hb ⊢
  have hge : acc * 10 + Sv.chd s.data.toList[i] ≤ (acc * 10 + Sv.chd s.data.toList[i]) * 10 ^ j := by
   have := Int.mul_le_mul_of_nonneg_left hp (show 0 ≤ acc * 10 + Sv.chd s.data.toList[i] by omega)
   omega
  have hw1 : wrap64 (acc * 10) = acc * 10 := w64 (by omega) (by omega)
  have hw2 : wrap64 (acc * 10 + Sv.chd s.data.toList[i]) = acc * 10 + Sv.chd s.data.toList[i] := w64 (by omega) (by omega)
  have hw3 : wrap64 ((i : Int) + 1) = ((i + 1 : Nat) : Int) := by rw [w64 (by omega) (by omega)]; omega
  simp only [rEnumber.l0, if_pos h1, if_pos h2, bt_nat s i (by omega), if_neg h3, hm, hw1, hw2, hw3]
  exact ih (i + 1) _ (by omega) hd' (by omega) hb
theorem ref_number (n : Int) (h : n.natAbs ≤ 9223372036854775807) : Ev (fun k => rEnumber.f k (Sv.txt n)) n := by
 have hnd : Sv.nd n ≤ 19 := Sv.nd_le (by omega) (by omega)
 have hs := Sv.txt_size n
 have hN := ref_Negative n
 unfold rEnumber.f
 have hv : Sv.valN (Sv.txtN n.natAbs) = n.natAbs := Sv.valN_txtN _
 have hsz : (Sv.txt n).size ≤ 20 := by rw [hs]; split <;> omega
 by_cases hn : n < 0
 ·have e : (Sv.txt n).data.toList = 45 :: Sv.txtN n.natAbs := by show Sv.txtL n = _; rw [Sv.txtL, if_pos hn]
  have hl : (Sv.txt n).size = (Sv.txtN n.natAbs).length + 1 := by
   have : (Sv.txt n).data.toList.length = (Sv.txt n).size := by rw [Array.length_toList]; rfl
   rw [← this, e]; rfl
  have ed : (Sv.txt n).data.toList.drop 1 = Sv.txtN n.natAbs := by rw [e]; rfl
  have hb0 : bt (Sv.txt n) 0 = 45 := (bt_txt0 n).2 hn
  refine Ev.succ ?_
  have h1 : (0 : Int) < ((Sv.txt n).size : Int) := by omega
  have hw : wrap64 ((0 : Int) + 1) = ((1 : Nat) : Int) := w64 (by omega) (by omega)
  simp only [rEnumber.l0, if_pos h1, if_pos (Int.le_refl 0), if_pos hb0, hw]
  have := number_ev (Sv.txt n) _ hN (by omega) (Sv.txtN n.natAbs).length 1 0 (by omega) (by rw [ed]; exact fun c hc => txtN_mem hc) (by omega) (by rw [ed, hv]; omega)
  rw [ed, hv, decide_eq_true hn, if_pos rfl] at this
  rw [show -((0 : Int) * 10 ^ (Sv.txtN n.natAbs).length + (n.natAbs : Int)) = n by omega] at this
  exact this
 ·have e : (Sv.txt n).data.toList = Sv.txtN n.natAbs := by show Sv.txtL n = _; rw [Sv.txtL, if_neg hn]
  have := number_ev (Sv.txt n) _ hN (by omega) (Sv.txt n).size 0 0 (by omega) (by rw [List.drop_zero, e]; exact fun c hc => txtN_mem hc) (by omega) (by rw [List.drop_zero, e, hv]; omega)
  rw [List.drop_zero, e, hv, decide_eq_false hn] at this
  simp only [Bool.false_eq_true, if_false] at this
  rw [show ((0 : Int) * 10 ^ (Sv.txt n).size + (n.natAbs : Int)) = n by omega] at this
  exact this
set_option linter.unusedVariables false
set_option linter.unusedSimpArgs false
theorem made_ev (t : List Int) (hd : Sv.Digs 10 t) (i : Nat) : ∀ (acc : List Int), i ≤ t.length → acc.length + i ≤ 100000000000000 →
  Ev (fun k => rEmade.l0 k t acc ((i : Int) - 1)) (strOfNums (acc ++ (t.take i).reverse.map (48 + ·))) := by
 induction i with
 | zero =>
  intro acc hi hl
  refine Ev.succ (Ev.of ?_)
  simp [rEmade.l0]
 | succ i ih =>
  intro acc hi hl
  refine Ev.succ ?_
  have e : ((i + 1 : Nat) : Int) - 1 = (i : Int) := by omega
  rw [e]
  have h2 : (0 : Int) ≤ (i : Int) := by omega
  have h3 : (i : Int) < (t.length : Int) := by omega
  have hw : wrap64 ((i : Int) - 1) = (i : Int) - 1 := w64 (by omega) (by omega)
  have h5 : (i : Int) ≥ 0 := h2
  have h6 : acc.length < 140737488355328 := by omega
  have hi' : i < t.length := hi
  have hr := hd t[i] (List.getElem_mem hi')
  have hw2 : wrap64 (48 + t[i]) % 256 = 48 + t[i] := by rw [w64 (by omega) (by omega)]; omega
  simp only [rEmade.l0, if_pos h2, if_pos h3, if_pos h5, if_pos h6, hw, rd_get t i hi', hw2]
  have ht : t.take (i + 1) = t.take i ++ [t[i]] := List.take_succ_eq_append_getElem hi'
  rw [ht, List.reverse_append]
  have := ih (acc ++ [48 + t[i]]) (by omega) (by simp; omega)
  rw [List.append_assoc] at this
  exact this
theorem str_digs (pre : List Int) (t : List Int) (hd : Sv.Digs 10 t) : (strOfNums (pre ++ t.reverse.map (48 + ·))).data.toList = pre.map (fun n => UInt8.ofNat n.toNat) ++ t.reverse.map Sv.dch := by
 rw [strOfNums_data, List.map_append, List.map_map]
 congr 1
 refine List.map_congr_left (fun x hx => ?_)
 have := hd x (List.mem_reverse.1 hx)
 show UInt8.ofNat (48 + x).toNat = UInt8.ofNat (48 + x.toNat)
 congr 1
 omega
theorem ba_ext {a b : ByteArray} (h : a.data.toList = b.data.toList) : a = b := by
 cases a; cases b
 congr 1
 exact Array.toList_inj.1 h
theorem ref_made (l : List Int) (neg : Bool) (hd : Sv.Digs 10 l) (hl : l.length ≤ 10000000000000) : Ev (fun k => rEmade.f k l neg) (Sv.txt (if neg then -Sv.vl 10 l else Sv.vl 10 l)) := by
 unfold rEmade.f
 refine Ev.bind (ref_cut l (by omega)) ?_
 have hc := Sv.cut_eq_dg (b := 10) (by omega) hd
 have hv := Sv.vl_nonneg (B := 10) (by omega) hd
 have hcd := Sv.cut_digs hd
 obtain ⟨j, hj⟩ := Sv.cut_spec l
 have hcl : (Sv.cut l).length ≤ l.length := by
  have : l.length = (Sv.cut l).length + j := by
   conv => lhs; rw [hj]
   simp
  omega
 rw [show ((10 : Nat) : Int) = 10 from rfl] at hc
 by_cases h0 : Sv.vl 10 l = 0
 ·have : Sv.cut l = [] := by rw [hc, h0]; exact Sv.dg_zero 10
  rw [this, h0]
  refine Ev.of ?_
  cases neg <;> rfl
 ·have hne : Sv.cut l ≠ [] := by rw [hc]; exact Sv.dg_ne_nil (by omega) (by omega)
  have hl0 : ¬ ((Sv.cut l).length : Int) = 0 := by
   intro e
   exact hne (List.length_eq_zero_iff.1 (by omega))
  simp only [if_neg hl0]
  have hw : wrap64 (((Sv.cut l).length : Int) - 1) = ((Sv.cut l).length : Int) - 1 := w64 (by omega) (by omega)
  have key : ∀ pre : List Int, pre.length ≤ 1 → ∀ (r : ByteArray), r.data.toList = pre.map (fun n => UInt8.ofNat n.toNat) ++ (Sv.cut l).reverse.map Sv.dch → Ev (fun k => rEmade.j0 k (Sv.cut l) pre) r := by
   intro pre hp r hr
   refine Ev.succ ?_
   simp only [rEmade.j0, hw]
   have := made_ev (Sv.cut l) hcd (Sv.cut l).length pre (Nat.le_refl _) (by omega)
   rw [List.take_length] at this
   rw [ba_ext (hr.trans (str_digs pre _ hcd).symm)]
   exact this
  have hN : Sv.txtN (Sv.vl 10 l).toNat = (Sv.cut l).reverse.map Sv.dch := by
   rw [Sv.txtN, if_neg (by omega), hc]
  cases neg
  ·simp only [Bool.false_eq_true, if_false]
   refine key [] (by simp) _ ?_
   show Sv.txtL _ = _
   rw [Sv.txtL, if_neg (by omega), show (Sv.vl 10 l).natAbs = (Sv.vl 10 l).toNat by omega, hN]
   rfl
  ·have h9 : ([] : List Int).length < 140737488355328 := by simp
   simp only [if_pos rfl, if_pos h9, if_true]
   refine key [45] (by simp) _ ?_
   show Sv.txtL _ = _
   rw [Sv.txtL, if_pos (by omega), show (-Sv.vl 10 l).natAbs = (Sv.vl 10 l).toNat by omega, hN]
   rfl
theorem digit_cut (d : Nat) (h : d < 10) : ((⟨#[48, 49, 50, 51, 52, 53, 54, 55, 56, 57]⟩ : ByteArray).extract d (d + 1)) = ⟨#[Sv.dch d]⟩ := by
 have : d = 0 ∨ d = 1 ∨ d = 2 ∨ d = 3 ∨ d = 4 ∨ d = 5 ∨ d = 6 ∨ d = 7 ∨ d = 8 ∨ d = 9 := by omega
 rcases this with rfl | rfl | rfl | rfl | rfl | rfl | rfl | rfl | rfl | rfl <;> decide
theorem ba_append_toList (a b : ByteArray) : (a ++ b).data.toList = a.data.toList ++ b.data.toList := by
 rw [ByteArray.data_append, Array.toList_append]
theorem Whole_ev (x0 : Int) (M : Nat) : ∀ (m : Int) (x3 : ByteArray), m.natAbs = M → -9223372036854775807 ≤ m → m ≤ 9223372036854775807 → x3.size + M ≤ 9223372036854775807 + 9223372036854775807 → x3.size + (Sv.dg 10 M).length ≤ 100 → 
  Ev (fun k => rEWhole.l0 k x0 x3 m) ⟨((if x0 < 0 then [45] else []) ++ ((Sv.dg 10 M).reverse.map Sv.dch ++ x3.data.toList)).toArray⟩ := by
 induction M using Nat.strongRecOn with
 | _ M ih =>
  intro m x3 hM h0 h1 _ hs
  refine Ev.succ ?_
  by_cases hz : m = 0
  ·simp only [rEWhole.l0, if_pos hz]
   have hM0 : M = 0 := by omega
   subst hM0
   rw [Sv.dg_zero]
   refine Ev.of ?_
   by_cases hx : x0 < 0
   ·rw [if_pos hx, if_pos hx, if_pos (by omega)]
    rfl
   ·rw [if_neg hx, if_neg hx]
    congr 1
  ·have hdg := Sv.dg_pos (b := 10) (n := M) (by omega) (by omega)
   have ht1 : Int.tmod m 10 = if m < 0 then -((M % 10 : Nat) : Int) else ((M % 10 : Nat) : Int) := by
    split
    ·obtain ⟨a, rfl⟩ : ∃ a : Nat, m = -(a : Int) := ⟨m.natAbs, by omega⟩
     rw [Int.neg_tmod, show (10 : Int) = ((10 : Nat) : Int) from rfl, ← Int.ofNat_tmod]
     rw [show M = a by omega]
    ·obtain ⟨a, rfl⟩ : ∃ a : Nat, m = (a : Int) := ⟨m.natAbs, by omega⟩
     rw [show (10 : Int) = ((10 : Nat) : Int) from rfl, ← Int.ofNat_tmod]
     rw [show M = a by omega]
   have ht2 : Int.tdiv m 10 = if m < 0 then -((M / 10 : Nat) : Int) else ((M / 10 : Nat) : Int) := by
    split
    ·obtain ⟨a, rfl⟩ : ∃ a : Nat, m = -(a : Int) := ⟨m.natAbs, by omega⟩
     rw [Int.neg_tdiv, show (10 : Int) = ((10 : Nat) : Int) from rfl, ← Int.ofNat_tdiv]
     rw [show M = a by omega]
    ·obtain ⟨a, rfl⟩ : ∃ a : Nat, m = (a : Int) := ⟨m.natAbs, by omega⟩
     rw [show (10 : Int) = ((10 : Nat) : Int) from rfl, ← Int.ofNat_tdiv]
     rw [show M = a by omega]
   have hm : M % 10 < 10 := Nat.mod_lt _ (by omega)
   have hd : mx (Int.tmod m 10) (wrap64 (-(Int.tmod m 10))) = ((M % 10 : Nat) : Int) := by
    rw [ht1]
    generalize M % 10 = r at hm
    clear ht1 ht2 hdg ih hs
    unfold mx
    by_cases hn : m < 0
    ·rw [if_pos hn, w64 (by omega) (by omega)]; split <;> omega
    ·rw [if_neg hn, w64 (by omega) (by omega)]; split <;> omega
   have hT : (Int.tdiv m 10).natAbs = M / 10 ∧ -9223372036854775807 ≤ Int.tdiv m 10 ∧ Int.tdiv m 10 ≤ 9223372036854775807 := by
    have hb : M / 10 ≤ M := Nat.div_le_self _ _
    have hb2 : M ≤ 9223372036854775807 := by clear ht1 ht2 hdg ih hs hd; omega
    rw [ht2]
    generalize M / 10 = q at hb
    clear ht1 ht2 hdg ih hs hd
    by_cases hn : m < 0
    ·rw [if_pos hn]; omega
    ·rw [if_neg hn]; omega
   clear ht1 ht2
   have hw : wrap64 (((M % 10 : Nat) : Int) + 1) = ((M % 10 + 1 : Nat) : Int) := by rw [w64 (by omega) (by omega)]; omega
   have hq : wrap64 (Int.tdiv m 10) = Int.tdiv m 10 := w64 (by omega) hT.2.2
   have c1 : (0 : Int) ≤ ((M % 10 : Nat) : Int) := by omega
   have c2 : ((M % 10 : Nat) : Int) ≤ ((M % 10 + 1 : Nat) : Int) := by omega
   have c3 : ((M % 10 + 1 : Nat) : Int) ≤ 10 := by omega
   have hsz : (⟨#[Sv.dch ((M % 10 : Nat) : Int)]⟩ : ByteArray).size = 1 := rfl
   rw [hdg] at hs
   simp only [List.length_cons] at hs
   have c4 : (⟨#[Sv.dch ((M % 10 : Nat) : Int)]⟩ : ByteArray).size + x3.size ≤ 9223372036854775807 := by rw [hsz]; omega
   simp only [rEWhole.l0, if_neg hz, hd, hw, if_pos c1, if_pos c2, if_pos c3, Int.toNat_natCast, digit_cut _ hm, if_pos c4, hq]
   have hsz2 : ((⟨#[Sv.dch ((M % 10 : Nat) : Int)]⟩ : ByteArray) ++ x3).size = 1 + x3.size := by rw [ByteArray.size_append, hsz]
   have := ih (M / 10) (by omega) (Int.tdiv m 10) ((⟨#[Sv.dch ((M % 10 : Nat) : Int)]⟩ : ByteArray) ++ x3) hT.1 hT.2.1 hT.2.2 (by rw [hsz2]; omega) (by rw [hsz2]; omega)
   rw [hdg, List.reverse_cons, List.map_append, List.append_assoc]
   rw [ba_append_toList] at this
   exact this
theorem ref_Whole (n : Int) (h : n.natAbs ≤ 9223372036854775807) : Ev (fun k => rEWhole.f k n) (Sv.txt n) := by
 unfold rEWhole.f
 by_cases h0 : n = 0
 ·subst h0
  exact Ev.of (by decide)
 ·simp only [if_neg h0]
  have hnd : (Sv.dg 10 n.natAbs).length ≤ 19 := Sv.dg_length_le (by omega) (by omega)
  have := Whole_ev n n.natAbs n ⟨#[]⟩ rfl (by omega) (by omega) (by show 0 + _ ≤ _; omega) (by show 0 + _ ≤ _; omega)
  have e : (⟨((if n < 0 then [45] else []) ++ ((Sv.dg 10 n.natAbs).reverse.map Sv.dch ++ (⟨#[]⟩ : ByteArray).data.toList)).toArray⟩ : ByteArray) = Sv.txt n := by
   apply ba_ext
   show _ = Sv.txtL n
   have hN : Sv.txtN n.natAbs = (Sv.dg 10 n.natAbs).reverse.map Sv.dch := by rw [Sv.txtN, if_neg (by omega)]
   rw [Sv.txtL, hN]
   by_cases hn : n < 0 <;> simp [hn]
  rw [e] at this
  exact this
set_option linter.unusedVariables false
set_option linter.unusedSimpArgs false
theorem Ev.eq {α : Type} {f : Nat → Option α} {x y : α} (h : Ev f x) (e : x = y) : Ev f y := e ▸ h
theorem getD_ge (l : List Int) (i : Nat) (h : l.length ≤ i) : l.getD i 0 = 0 := by simp [List.getD, h]
theorem at_nat (l : List Int) (i : Nat) : rEat.f l (i : Int) = some (l.getD i 0) := by
 unfold rEat.f
 by_cases h : i < l.length
 ·have h1 : (i : Int) < (l.length : Int) := by omega
  rw [if_pos h1, if_pos (by omega), rd_nat]
 ·have h1 : ¬ (i : Int) < (l.length : Int) := by omega
  rw [if_neg h1, getD_ge _ _ (by omega)]
theorem vl_take (l : List Int) (i : Nat) : Sv.vl 10 (l.take (i + 1)) = Sv.vl 10 (l.take i) + 10 ^ i * l.getD i 0 := by
 by_cases h : i < l.length
 ·have ht : l.take (i + 1) = l.take i ++ [l[i]] := List.take_succ_eq_append_getElem h
  rw [ht, Sv.vl_append, List.length_take, Nat.min_eq_left (by omega)]
  simp [Sv.vl, h]
 ·rw [List.take_of_length_le (by omega), List.take_of_length_le (by omega), getD_ge _ _ (by omega)]
  simp
theorem getD_digs {l : List Int} (h : Sv.Digs 10 l) (i : Nat) : 0 ≤ l.getD i 0 ∧ l.getD i 0 < 10 := by
 by_cases hi : i < l.length
 ·have : l.getD i 0 = l[i] := by simp [hi]
  rw [this]
  exact h _ (List.getElem_mem hi)
 ·rw [getD_ge _ _ (by omega)]; omega
theorem pow10 (i : Nat) : (10 : Int) ^ (i + 1) = 10 * 10 ^ i := by rw [Int.pow_succ]; omega
theorem plus_ev (a b : List Int) (ha : Sv.Digs 10 a) (hb : Sv.Digs 10 b) (hl : max a.length b.length ≤ 10000000000000) (j : Nat) : ∀ (i : Nat) (out : List Int) (c : Int), i + j = max a.length b.length + 1 → out.length = i → Sv.Digs 10 out → 0 ≤ c → c ≤ 1 →
  Sv.vl 10 out + 10 ^ i * c = Sv.vl 10 (a.take i) + Sv.vl 10 (b.take i) →
  Ev (fun k => rEplus.l0 k a b out c i) (Sv.dg 10 (Sv.vl 10 a + Sv.vl 10 b).toNat) := by
 have hmx : mx (a.length : Int) (b.length : Int) = ((max a.length b.length : Nat) : Int) := by unfold mx; split <;> omega
 have hw : wrap64 (mx (a.length : Int) (b.length : Int) + 1) = ((max a.length b.length : Nat) : Int) + 1 := by rw [hmx, w64 (by omega) (by omega)]
 induction j with
 | zero =>
  intro i out c hi ho hd hc0 hc1 hv
  refine Ev.succ ?_
  have h1 : ¬ (i : Int) < ((max a.length b.length : Nat) : Int) + 1 := by omega
  simp only [rEplus.l0, hw, if_neg h1]
  refine Ev.bind (ref_cut out (by omega)) (Ev.of ?_)
  congr 1
  rw [Sv.cut_eq_dg (b := 10) (by omega) hd]
  congr 2
  rw [List.take_of_length_le (by omega), List.take_of_length_le (by omega)] at hv
  have va := Sv.vl_lt (B := 10) (by omega) ha
  have vb := Sv.vl_lt (B := 10) (by omega) hb
  have vo := Sv.vl_nonneg (B := 10) (by omega) hd
  have pm : ∀ x y : Nat, x ≤ y → (10 : Int) ^ x ≤ 10 ^ y := fun x y h => by exact_mod_cast Nat.pow_le_pow_right (n := 10) (by omega) h
  have p1 := pm a.length (max a.length b.length) (by omega)
  have p2 := pm b.length (max a.length b.length) (by omega)
  have hp : (0 : Int) < 10 ^ (max a.length b.length) := Int.pow_pos (by omega)
  have p3 := pow10 (max a.length b.length)
  rw [show i = max a.length b.length + 1 by omega, p3] at hv
  have hc : c = 0 := by
   by_cases h : c = 0
   ·exact h
   ·have : c = 1 := by omega
    subst this
    omega
  subst hc
  show Sv.vl 10 out = _
  omega
 | succ j ih =>
  intro i out c hi ho hd hc0 hc1 hv
  refine Ev.succ ?_
  have h1 : (i : Int) < ((max a.length b.length : Nat) : Int) + 1 := by omega
  have da := getD_digs ha i
  have db := getD_digs hb i
  have ta := vl_take a i
  have tb := vl_take b i
  have h2 : out.length < 17592186044416 := by omega
  have w1 : wrap64 (a.getD i 0 + b.getD i 0) = a.getD i 0 + b.getD i 0 := w64 (by omega) (by omega)
  have w2 : wrap64 (c + (a.getD i 0 + b.getD i 0)) = c + (a.getD i 0 + b.getD i 0) := w64 (by omega) (by omega)
  have w3 : wrap64 ((i : Int) + 1) = ((i + 1 : Nat) : Int) := by rw [w64 (by omega) (by omega)]; omega
  have e1 : Int.tmod (c + (a.getD i 0 + b.getD i 0)) 10 = (c + (a.getD i 0 + b.getD i 0)) % 10 := Int.tmod_eq_emod_of_nonneg (by omega)
  have e2 : Int.tdiv (c + (a.getD i 0 + b.getD i 0)) 10 = (c + (a.getD i 0 + b.getD i 0)) / 10 := Int.tdiv_eq_ediv_of_nonneg (by omega)
  have w4 : wrap64 ((c + (a.getD i 0 + b.getD i 0)) / 10) = (c + (a.getD i 0 + b.getD i 0)) / 10 := w64 (by omega) (by omega)
  simp only [rEplus.l0, hw, if_pos h1, at_nat, Option.bind_some, w1, w2, e1, e2, w3, w4, if_pos h2]
  clear w1 w2 e1 e2 w3 w4 h1 h2
  generalize a.getD i 0 = x at *
  generalize b.getD i 0 = y at *
  refine ih (i + 1) _ _ (by omega) (by simp [ho]) ?_ (by omega) (by omega) ?_
  ·exact hd.append (Sv.Digs.cons (by omega) (by omega) (Sv.Digs.nil _))
  ·rw [Sv.vl_append, ho, ta, tb, pow10]
   simp only [Sv.vl_cons, Sv.vl_nil]
   have hm : c + (x + y) = (c + (x + y)) % 10 + 10 * ((c + (x + y)) / 10) := by omega
   generalize (c + (x + y)) % 10 = r at *
   generalize (c + (x + y)) / 10 = q at *
   have : (10 : Int) ^ i * (c + (x + y)) = 10 ^ i * (r + 10 * q) := by rw [hm]
   grind
theorem ref_plus (a b : List Int) (ha : Sv.Digs 10 a) (hb : Sv.Digs 10 b) (hl : max a.length b.length ≤ 10000000000000) :
  Ev (fun k => rEplus.f k a b) (Sv.dg 10 (Sv.vl 10 a + Sv.vl 10 b).toNat) :=
 plus_ev a b ha hb hl (max a.length b.length + 1) 0 [] 0 (by omega) rfl (Sv.Digs.nil _) (by omega) (by omega) (by simp [Sv.vl])
theorem minus_ev (a b : List Int) (ha : Sv.Digs 10 a) (hb : Sv.Digs 10 b) (hl : a.length ≤ 10000000000000) (hbl : Sv.vl 10 (b.take a.length) = Sv.vl 10 b) (hle : Sv.vl 10 b ≤ Sv.vl 10 a) (j : Nat) : ∀ (i : Nat) (out : List Int) (c : Int), i + j = a.length → out.length = i → Sv.Digs 10 out → 0 ≤ c → c ≤ 1 →
  Sv.vl 10 out = Sv.vl 10 (a.take i) - Sv.vl 10 (b.take i) + 10 ^ i * c →
  Ev (fun k => rEminus.l0 k a b out c i) (Sv.dg 10 (Sv.vl 10 a - Sv.vl 10 b).toNat) := by
 induction j with
 | zero =>
  intro i out c hi ho hd hc0 hc1 hv
  refine Ev.succ ?_
  have h1 : ¬ (i : Int) < (a.length : Int) := by omega
  simp only [rEminus.l0, if_neg h1]
  refine Ev.bind (ref_cut out (by omega)) (Ev.of ?_)
  congr 1
  rw [Sv.cut_eq_dg (b := 10) (by omega) hd]
  congr 2
  have hia : i = a.length := by omega
  subst hia
  rw [List.take_length, hbl] at hv
  have vo := Sv.vl_lt (B := 10) (by omega) hd
  have hp : (0 : Int) < 10 ^ a.length := Int.pow_pos (by omega)
  rw [ho] at vo
  have hc : c = 0 := by
   by_cases h : c = 0
   ·exact h
   ·have : c = 1 := by omega
    subst this
    omega
  subst hc
  show Sv.vl 10 out = _
  omega
 | succ j ih =>
  intro i out c hi ho hd hc0 hc1 hv
  refine Ev.succ ?_
  have h1 : (i : Int) < (a.length : Int) := by omega
  have h0 : (0 : Int) ≤ (i : Int) := by omega
  have da := getD_digs ha i
  have db := getD_digs hb i
  have ta := vl_take a i
  have tb := vl_take b i
  have h2 : out.length < 17592186044416 := by omega
  have w1 : wrap64 (a.getD i 0 - b.getD i 0) = a.getD i 0 - b.getD i 0 := w64 (by omega) (by omega)
  have w2 : wrap64 (a.getD i 0 - b.getD i 0 - c) = a.getD i 0 - b.getD i 0 - c := w64 (by omega) (by omega)
  have w3 : wrap64 ((i : Int) + 1) = ((i + 1 : Nat) : Int) := by rw [w64 (by omega) (by omega)]; omega
  have w4 : wrap64 (a.getD i 0 - b.getD i 0 - c + 10) = a.getD i 0 - b.getD i 0 - c + 10 := w64 (by omega) (by omega)
  simp only [rEminus.l0, if_pos h1, if_pos h0, at_nat, rd_nat, Option.bind_some, w1, w2, w3, w4, if_pos h2]
  clear w1 w2 w3 w4 h1 h2
  generalize a.getD i 0 = x at *
  generalize b.getD i 0 = y at *
  by_cases hz : x - y - c < 0
  ·simp only [if_pos hz]
   refine ih (i + 1) _ _ (by omega) (by simp [ho]) ?_ (by omega) (by omega) ?_
   ·exact hd.append (Sv.Digs.cons (by omega) (by omega) (Sv.Digs.nil _))
   ·rw [Sv.vl_append, ho, ta, tb, pow10, hv]
    simp only [Sv.vl_cons, Sv.vl_nil]
    grind
  ·simp only [if_neg hz]
   refine ih (i + 1) _ _ (by omega) (by simp [ho]) ?_ (by omega) (by omega) ?_
   ·exact hd.append (Sv.Digs.cons (by omega) (by omega) (Sv.Digs.nil _))
   ·rw [Sv.vl_append, ho, ta, tb, pow10, hv]
    simp only [Sv.vl_cons, Sv.vl_nil]
    grind
theorem vl_split (l : List Int) (i : Nat) : Sv.vl 10 l = Sv.vl 10 (l.take i) + 10 ^ (min i l.length) * Sv.vl 10 (l.drop i) := by
 conv => lhs; rw [← List.take_append_drop i l]
 rw [Sv.vl_append, List.length_take]
theorem ref_minus (a b : List Int) (ha : Sv.Digs 10 a) (hb : Sv.Digs 10 b) (hl : a.length ≤ 10000000000000) (hle : Sv.vl 10 b ≤ Sv.vl 10 a) :
  Ev (fun k => rEminus.f k a b) (Sv.dg 10 (Sv.vl 10 a - Sv.vl 10 b).toNat) := by
 refine minus_ev a b ha hb hl ?_ hle a.length 0 [] 0 (by omega) rfl (Sv.Digs.nil _) (by omega) (by omega) (by simp [Sv.vl])
 by_cases h : b.length ≤ a.length
 ·rw [List.take_of_length_le h]
 ·have hs := vl_split b a.length
  rw [Nat.min_eq_left (by omega)] at hs
  have va := Sv.vl_lt (B := 10) (by omega) ha
  have d1 : Sv.Digs 10 (b.take a.length) := fun x hx => hb x (List.mem_of_mem_take hx)
  have d2 : Sv.Digs 10 (b.drop a.length) := fun x hx => hb x (List.mem_of_mem_drop hx)
  have v1 := Sv.vl_nonneg (B := 10) (by omega) d1
  have v2 := Sv.vl_nonneg (B := 10) (by omega) d2
  have hp : (0 : Int) < 10 ^ a.length := Int.pow_pos (by omega)
  have : Sv.vl 10 (b.drop a.length) = 0 := by
   by_cases h0 : Sv.vl 10 (b.drop a.length) = 0
   ·exact h0
   ·have : (10 : Int) ^ a.length * 1 ≤ 10 ^ a.length * Sv.vl 10 (b.drop a.length) := Int.mul_le_mul_of_nonneg_left (by omega) (by omega)
    omega
  rw [this] at hs
  simpa using hs.symm
theorem ref_Negated (n : Int) (h : Sv.nd n ≤ 9223372036854775800) : rENegated.f (Sv.txt n) = some (Sv.txt (-n)) := by
 unfold rENegated.f
 have hs := Sv.txt_size n
 by_cases h0 : n = 0
 ·rw [if_pos ((txt_eq0 n).2 h0)]; subst h0; rfl
 ·rw [if_neg (fun e => h0 ((txt_eq0 n).1 e)), ref_Negative]
  simp only [Option.bind_some]
  have hp := txt_size_pos n
  by_cases hn : n < 0
  ·rw [if_pos (by simpa using hn), if_pos (by omega)]
   congr 1
   apply ba_ext
   rw [ByteArray.data_extract, Array.toList_extract]
   show List.extract (Sv.txtL n) 1 _ = Sv.txtL (-n)
   have e : (Sv.txt n).size = (Sv.txtL n).length := by rw [Sv.txt, ByteArray.size]; simp
   rw [e, Sv.txtL, if_pos hn, Sv.txtL, if_neg (by omega), show (-n).natAbs = n.natAbs by omega]
   simp [List.extract]
  ·rw [if_neg (by simpa using hn), if_pos (by rw [hs, if_neg hn]; omega)]
   congr 1
   apply ba_ext
   rw [ba_append_toList]
   show [45] ++ Sv.txtL n = Sv.txtL (-n)
   rw [Sv.txtL, if_neg hn, Sv.txtL, if_pos (by omega), show (-n).natAbs = n.natAbs by omega]
   rfl
theorem ref_Magnitude (n : Int) : rEMagnitude.f (Sv.txt n) = some (Sv.txt n.natAbs) := by
 unfold rEMagnitude.f
 rw [ref_Negative]
 simp only [Option.bind_some]
 have hp := txt_size_pos n
 by_cases hn : n < 0
 ·rw [if_pos (by simpa using hn), if_pos (by omega)]
  congr 1
  apply ba_ext
  rw [ByteArray.data_extract, Array.toList_extract]
  show List.extract (Sv.txtL n) 1 _ = Sv.txtL n.natAbs
  have e : (Sv.txt n).size = (Sv.txtL n).length := by rw [Sv.txt, ByteArray.size]; simp
  rw [e, Sv.txtL, if_pos hn, Sv.txtL, if_neg (by omega), Int.natAbs_natCast]
  simp [List.extract]
 ·rw [if_neg (by simpa using hn)]
  congr 2
  omega
theorem ref_Order (m n : Int) (hm : Sv.nd m ≤ 10000000000000) (hn : Sv.nd n ≤ 10000000000000) : Ev (fun k => rEOrder.f k (Sv.txt m) (Sv.txt n)) (m - n).sign := by
 unfold rEOrder.f
 simp only [ref_Sign, Option.bind_some]
 by_cases h : m.sign = n.sign
 ·simp only [if_pos h]
  refine Ev.bind (ref_digits m hm) (Ev.bind (ref_cut _ (by rw [dgs_length]; omega)) (Ev.bind (ref_digits n hn) (Ev.bind (ref_cut _ (by rw [dgs_length]; omega)) ?_)))
  rw [cut_dgs, cut_dgs]
  have lm : (Sv.dg 10 m.natAbs).length ≤ Sv.nd m := by
   by_cases h0 : m = 0
   ·subst h0; rw [Int.natAbs_zero, Sv.dg_zero]; simp
   ·rw [← dgs_pos h0, dgs_length]; exact Nat.le_refl _
  refine Ev.bind (ref_order _ _ (Sv.dg_digs (b := 10) (by omega) _) (Sv.dg_digs (b := 10) (by omega) _) (Sv.dg_noz (by omega) _) (Sv.dg_noz (by omega) _) (by omega)) (Ev.of ?_)
  have e1 := Sv.vl_dg (b := 10) (by omega) m.natAbs
  have e2 := Sv.vl_dg (b := 10) (by omega) n.natAbs
  rw [show ((10 : Nat) : Int) = 10 from rfl] at e1 e2
  rw [e1, e2]
  congr 1
  have hs : m.sign * ((m.natAbs : Int) - (n.natAbs : Int)).sign = (m - n).sign := by
   rcases Int.lt_trichotomy m 0 with hm | hm | hm
   ·have hn : n < 0 := Int.sign_eq_neg_one_iff_neg.1 (h ▸ Int.sign_eq_neg_one_of_neg hm)
    rw [show (m.natAbs : Int) - (n.natAbs : Int) = -(m - n) by omega, Int.sign_neg, Int.sign_eq_neg_one_of_neg hm]
    omega
   ·subst hm
    have hn : n = 0 := Int.sign_eq_zero_iff_zero.1 (h ▸ rfl)
    subst hn; rfl
   ·have hn : 0 < n := Int.sign_eq_one_iff_pos.1 (h ▸ Int.sign_eq_one_of_pos hm)
    rw [show (m.natAbs : Int) - (n.natAbs : Int) = m - n by omega, Int.sign_eq_one_of_pos hm]
    omega
  rw [hs]
  rcases Int.lt_trichotomy (m - n) 0 with h9 | h9 | h9
  ·rw [Int.sign_eq_neg_one_of_neg h9]; exact w64 (by omega) (by omega)
  ·rw [h9]; exact w64 (by decide) (by decide)
  ·rw [Int.sign_eq_one_of_pos h9]; exact w64 (by omega) (by omega)
 ·simp only [if_neg h]
  refine Ev.of ?_
  rcases Int.lt_trichotomy m 0 with hm | hm | hm <;> rcases Int.lt_trichotomy n 0 with hn | hn | hn
  ·exact absurd ((Int.sign_eq_neg_one_of_neg hm).trans (Int.sign_eq_neg_one_of_neg hn).symm) h
  ·subst hn; rw [Int.sign_eq_neg_one_of_neg hm, Int.sign_eq_neg_one_of_neg (show m - 0 < 0 by omega)]; rfl
  ·rw [Int.sign_eq_neg_one_of_neg hm, Int.sign_eq_one_of_pos hn, Int.sign_eq_neg_one_of_neg (show m - n < 0 by omega)]; rfl
  ·subst hm; rw [Int.sign_eq_neg_one_of_neg hn, Int.sign_eq_one_of_pos (show 0 < 0 - n by omega)]; rfl
  ·subst hm; subst hn; exact absurd rfl h
  ·subst hm; rw [Int.sign_eq_one_of_pos hn, Int.sign_eq_neg_one_of_neg (show 0 - n < 0 by omega)]; rfl
  ·rw [Int.sign_eq_one_of_pos hm, Int.sign_eq_neg_one_of_neg hn, Int.sign_eq_one_of_pos (show 0 < m - n by omega)]; rfl
  ·subst hn; rw [Int.sign_eq_one_of_pos hm, Int.sign_eq_one_of_pos (show 0 < m - 0 by omega)]; rfl
  ·exact absurd ((Int.sign_eq_one_of_pos hm).trans (Int.sign_eq_one_of_pos hn).symm) h
set_option linter.unusedVariables false
set_option linter.unusedSimpArgs false
theorem vl_dg10 (n : Nat) : Sv.vl 10 (Sv.dg 10 n) = n := Sv.vl_dg (b := 10) (by omega) n
theorem dg10_digs (n : Nat) : Sv.Digs 10 (Sv.dg 10 n) := Sv.dg_digs (b := 10) (by omega) n
theorem dg_nd (m : Int) : (Sv.dg 10 m.natAbs).length ≤ Sv.nd m := by
 by_cases h0 : m = 0
 ·subst h0; rw [Int.natAbs_zero, Sv.dg_zero]; simp
 ·rw [← dgs_pos h0, dgs_length]; exact Nat.le_refl _
theorem dg_len_of (x : Nat) (k : Nat) (h : x < 10 ^ k) : (Sv.dg 10 x).length ≤ k := Sv.dg_length_le (by omega) h
theorem natAbs_lt_nd (m : Int) : m.natAbs < 10 ^ Sv.nd m := Sv.lt_of_nd m
theorem made_dg (x : Nat) (k : Nat) (hk : k ≤ 10000000000000) (h : x < 10 ^ k) (neg : Bool) : Ev (fun k => rEmade.f k (Sv.dg 10 x) neg) (Sv.txt (if neg then -(x : Int) else (x : Int))) := by
 have := ref_made (Sv.dg 10 x) neg (dg10_digs x) (by have := dg_len_of x k h; omega)
 rw [vl_dg10] at this
 exact this
theorem Sum_long (m n : Int) (hm : Sv.nd m ≤ 1000000000000) (hn : Sv.nd n ≤ 1000000000000) : Ev (fun k => rESum.j0 k (Sv.txt m) (Sv.txt n) false) (Sv.txt (m + n)) := by
 refine Ev.succ ?_
 simp only [rESum.j0, Bool.false_eq_true, if_false, ref_Negative, Option.bind_some]
 refine Ev.bind (ref_digits m (by omega)) (Ev.bind (ref_digits n (by omega)) ?_)
 have bm := natAbs_lt_nd m
 have bn := natAbs_lt_nd n
 have bM : ∀ a b x : Nat, a ≤ b → x < 10 ^ a → x < 10 ^ b := fun a b x h hx => Nat.lt_of_lt_of_le hx (Nat.pow_le_pow_right (by omega) h)
 have bm1 := bM _ (max (Sv.nd m) (Sv.nd n)) _ (by omega) bm
 have bn1 := bM _ (max (Sv.nd m) (Sv.nd n)) _ (by omega) bn
 have p1 : 10 ^ (max (Sv.nd m) (Sv.nd n) + 1) = 10 * 10 ^ (max (Sv.nd m) (Sv.nd n)) := by rw [Nat.pow_succ]; omega
 by_cases h : (decide (m < 0) == decide (n < 0)) = true
 ·simp only [if_pos h]
  have h' : (m < 0 ↔ n < 0) := by simpa using h
  refine Ev.bind (ref_plus _ _ (dgs_digs m) (dgs_digs n) (by rw [dgs_length, dgs_length]; omega)) ?_
  rw [vl_dgs, vl_dgs]
  refine Ev.bind (made_dg _ (max (Sv.nd m) (Sv.nd n) + 1) (by omega) (by omega) _) (Ev.of ?_)
  congr 2
  by_cases hn : m < 0 <;> simp [hn] <;> omega
 ·simp only [if_neg h]
  have h' : ¬ (m < 0 ↔ n < 0) := by simpa using h
  refine Ev.bind (ref_cut _ (by rw [dgs_length]; omega)) (Ev.bind (ref_cut _ (by rw [dgs_length]; omega)) ?_)
  rw [cut_dgs, cut_dgs]
  have lm := dg_nd m
  refine Ev.bind (ref_order _ _ (dg10_digs _) (dg10_digs _) (Sv.dg_noz (by omega) _) (Sv.dg_noz (by omega) _) (by omega)) ?_
  rw [vl_dg10, vl_dg10]
  by_cases hc : n.natAbs ≤ m.natAbs
  ·have hs : ((m.natAbs : Int) - (n.natAbs : Int)).sign ≥ 0 := Int.sign_nonneg_iff.2 (by omega)
   simp only [if_pos hs]
   refine Ev.bind (ref_minus _ _ (dgs_digs m) (dgs_digs n) (by rw [dgs_length]; omega) (by rw [vl_dgs, vl_dgs]; omega)) ?_
   rw [vl_dgs, vl_dgs]
   refine Ev.bind (made_dg _ (max (Sv.nd m) (Sv.nd n)) (by omega) (by omega) _) (Ev.of ?_)
   congr 2
   by_cases hn : m < 0 <;> simp [hn] <;> omega
  ·have hs : ¬ ((m.natAbs : Int) - (n.natAbs : Int)).sign ≥ 0 := fun e => by have := Int.sign_nonneg_iff.1 e; omega
   simp only [if_neg hs]
   refine Ev.bind (ref_minus _ _ (dgs_digs n) (dgs_digs m) (by rw [dgs_length]; omega) (by rw [vl_dgs, vl_dgs]; omega)) ?_
   rw [vl_dgs, vl_dgs]
   refine Ev.bind (made_dg _ (max (Sv.nd m) (Sv.nd n)) (by omega) (by omega) _) (Ev.of ?_)
   congr 2
   by_cases hn : n < 0 <;> simp [hn] <;> omega
theorem nd17 {n : Int} (h : (Sv.nd n : Int) ≤ 17) : n.natAbs < 100000000000000000 := (Sv.nd_le_iff (k := 17) (by omega)).1 (by omega)
theorem ref_Sum (m n : Int) (hm : Sv.nd m ≤ 1000000000000) (hn : Sv.nd n ≤ 1000000000000) : Ev (fun k => rESum.f k (Sv.txt m) (Sv.txt n)) (Sv.txt (m + n)) := by
 unfold rESum.f
 simp only [ref_short m 17 (by omega), ref_short n 17 (by omega), Option.bind_some]
 by_cases h1 : (Sv.nd m : Int) ≤ 17
 ·simp only [decide_eq_true h1, if_pos]
  by_cases h2 : (Sv.nd n : Int) ≤ 17
  ·have b1 := nd17 h1
   have b2 := nd17 h2
   simp only [decide_eq_true h2]
   refine Ev.succ ?_
   simp only [rESum.j0, if_pos]
   refine Ev.bind (ref_number m (by omega)) (Ev.bind (ref_number n (by omega)) ?_)
   rw [w64 (by omega) (by omega)]
   exact Ev.bind (ref_Whole (m + n) (by omega)) (Ev.of rfl)
  ·simp only [decide_eq_false h2]
   exact Sum_long m n hm hn
 ·simp only [decide_eq_false h1, Bool.false_eq_true, if_false]
  exact Sum_long m n hm hn
theorem ref_Diff (m n : Int) (hm : Sv.nd m ≤ 1000000000000) (hn : Sv.nd n ≤ 1000000000000) : Ev (fun k => rEDiff.f k (Sv.txt m) (Sv.txt n)) (Sv.txt (m - n)) := by
 unfold rEDiff.f
 simp only [ref_Negated n (by omega), Option.bind_some]
 have := ref_Sum m (-n) hm (by rw [Sv.nd_neg]; exact hn)
 rw [← Int.sub_eq_add_neg] at this
 exact Ev.bind this (Ev.of rfl)
set_option linter.unusedVariables false
set_option linter.unusedSimpArgs false
theorem Ev.bs {α β : Type} {o : Option α} {g : Nat → α → Option β} {x : α} {y : β} (h : o = some x) (hg : Ev (fun k => g k x) y) : Ev (fun k => o.bind (g k)) y := Ev.bind (Ev.of h) hg
theorem Ev.pos {α : Type} {c : Prop} [d : Decidable c] {f g : Nat → Option α} {x : α} (h : c) (hf : Ev f x) : Ev (fun k => if c then f k else g k) x := by simp only [if_pos h]; exact hf
theorem Ev.neg {α : Type} {c : Prop} [d : Decidable c] {f g : Nat → Option α} {x : α} (h : ¬ c) (hg : Ev g x) : Ev (fun k => if c then f k else g k) x := by simp only [if_neg h]; exact hg
theorem w64n {i : Int} {n : Nat} (h : i = n) (h1 : n ≤ 9223372036854775807) : wrap64 i = (n : Int) := by subst h; exact w64 (by omega) (by omega)
theorem wmul {B x y z c : Int} (hB : 0 < B) (hB2 : B * B ≤ 9223372036854775807) (hx : 0 ≤ x ∧ x < B) (hy : 0 ≤ y ∧ y < B) (hz : 0 ≤ z ∧ z < B) (hc : 0 ≤ c ∧ c < B) :
  wrap64 (x * y) = x * y ∧ wrap64 (z + x * y) = z + x * y ∧ wrap64 (c + (z + x * y)) = c + (z + x * y) ∧ Int.tmod (c + (z + x * y)) B = (c + (z + x * y)) % B ∧ Int.tdiv (c + (z + x * y)) B = (c + (z + x * y)) / B ∧ wrap64 ((c + (z + x * y)) / B) = (c + (z + x * y)) / B := by
 obtain ⟨h1, h2, h3, h4, h5, h6, h7, h8, h9⟩ := Sv.mul_step hB hx hy hz hc
 have hb : B ≤ B * B := by have := Int.mul_le_mul_of_nonneg_left (show 1 ≤ B by omega) (show 0 ≤ B by omega); omega
 refine ⟨w64 (by omega) (by omega), w64 (by omega) (by omega), w64 (by omega) (by omega), Int.tmod_eq_emod_of_nonneg h4, Int.tdiv_eq_ediv_of_nonneg h4, w64 (by omega) (by omega)⟩
theorem times_in (a b : List Int) (ha : Sv.Digs 10 a) (hb : Sv.Digs 10 b) (hl : a.length + b.length ≤ 10000000000000) (R : List Int) (i : Nat) (hi : i < a.length)
  (next : ∀ out : List Int, out.length = a.length + b.length → Sv.Digs 10 out → (∀ p, i + 1 + b.length ≤ p → out.getD p 0 = 0) → Sv.vl 10 out = Sv.vl 10 (a.take (i + 1)) * Sv.vl 10 b → Ev (fun k => rEtimes.l0 k a b out ((i + 1 : Nat) : Int)) R) (q : Nat) :
  ∀ (j : Nat) (out : List Int) (c : Int), j + q = b.length → out.length = a.length + b.length → Sv.Digs 10 out → (∀ p, i + b.length ≤ p → out.getD p 0 = 0) → 0 ≤ c ∧ c < 10 →
   Sv.vl 10 out + Sv.pw 10 i * Sv.pw 10 j * c = Sv.vl 10 (a.take i) * Sv.vl 10 b + Sv.pw 10 i * (a.getD i 0 * Sv.vl 10 (b.take j)) →
   Ev (fun k => rEtimes.l1 k a b out i c j) R := by
 induction q with
 | zero =>
  intro j out c hj ho hd hz hc hv
  have hjb : j = b.length := by omega
  subst hjb
  rw [List.take_length] at hv
  refine Ev.succ ?_
  have h1 : ¬ (b.length : Int) < (b.length : Int) := by omega
  have h2 : (0 : Int) ≤ ((i + b.length : Nat) : Int) := by omega
  have h3 : ((i + b.length : Nat) : Int) < (out.length : Int) := by omega
  have w1 : wrap64 ((i : Int) + (b.length : Int)) = ((i + b.length : Nat) : Int) := w64n (by omega) (by omega)
  have w2 : wrap64 ((i : Int) + 1) = ((i + 1 : Nat) : Int) := w64n (by omega) (by omega)
  simp only [rEtimes.l1, if_neg h1, w1, w2, if_pos h2, if_pos h3, Int.toNat_natCast]
  clear w1 w2
  refine next _ (by simp [ho]) (Sv.d_set hd _ hc.1 hc.2) (fun p hp => ?_) ?_
  ·rw [Sv.g_set _ _ _ _ (by omega)]; exact hz p (by omega)
  ·rw [Sv.v_set _ _ _ _ (by omega), hz _ (Nat.le_refl _), Sv.v_take, Sv.pw_add]
   generalize Sv.vl 10 b = vb at *
   generalize a.getD i 0 = x at *
   generalize Sv.vl 10 (List.take i a) = va at *
   grind
 | succ q ih =>
  intro j out c hj ho hd hz hc hv
  refine Ev.succ ?_
  have h1 : (j : Int) < (b.length : Int) := by omega
  have h2 : (0 : Int) ≤ ((i + j : Nat) : Int) := by omega
  have h3 : ((i + j : Nat) : Int) < (out.length : Int) := by omega
  have h4 : (0 : Int) ≤ (i : Int) := by omega
  have h5 : (i : Int) < (a.length : Int) := by omega
  have h6 : (0 : Int) ≤ (j : Int) := by omega
  have da := Sv.g_digs (by omega) ha i
  have db := Sv.g_digs (by omega) hb j
  have dz := Sv.g_digs (by omega) hd (i + j)
  obtain ⟨-, -, -, -, -, m0, m1, m2, m3⟩ := Sv.mul_step (by omega) da db dz hc
  obtain ⟨v1, v2, v3, e1, e2, v4⟩ := wmul (by omega) (by omega) da db dz hc
  have w1 : wrap64 ((i : Int) + (j : Int)) = ((i + j : Nat) : Int) := w64n (by omega) (by omega)
  have w2 : wrap64 ((j : Int) + 1) = ((j + 1 : Nat) : Int) := w64n (by omega) (by omega)
  simp only [rEtimes.l1, if_pos h1, w1, w2, if_pos h2, if_pos h3, if_pos h4, if_pos h5, if_pos h6, rd_nat, v1, v2, v3, e1, e2, v4, Int.toNat_natCast]
  clear w1 w2 v1 v2 v3 e1 e2 v4
  refine ih (j + 1) _ _ (by omega) (by simp [ho]) (Sv.d_set hd _ m0 m1) (fun p hp => ?_) ⟨m2, m3⟩ ?_
  ·rw [Sv.g_set _ _ _ _ (by omega)]; exact hz p hp
  ·rw [Sv.v_set _ _ _ _ (by omega), Sv.v_take, Sv.pw_s 10 j, Sv.pw_add]
   have := Sv.mul_inv (B := 10) (z := out.getD (i + j) 0) (y := b.getD j 0) hv
   rw [← this, Int.mul_left_comm 10 (Sv.pw 10 i)]
theorem times_ev (a b : List Int) (ha : Sv.Digs 10 a) (hb : Sv.Digs 10 b) (hl : a.length + b.length ≤ 10000000000000) (n : Nat) : ∀ (i : Nat) (out : List Int), i + n = a.length → out.length = a.length + b.length → Sv.Digs 10 out → (∀ p, i + b.length ≤ p → out.getD p 0 = 0) → Sv.vl 10 out = Sv.vl 10 (a.take i) * Sv.vl 10 b →
  Ev (fun k => rEtimes.l0 k a b out i) (Sv.dg 10 (Sv.vl 10 a * Sv.vl 10 b).toNat) := by
 induction n with
 | zero =>
  intro i out hi ho hd hz hv
  refine Ev.succ ?_
  have h1 : ¬ (i : Int) < (a.length : Int) := by omega
  simp only [rEtimes.l0, if_neg h1]
  refine Ev.bind (ref_cut out (by omega)) (Ev.of ?_)
  congr 1
  rw [Sv.cut_eq_dg (b := 10) (by omega) hd]
  rw [List.take_of_length_le (by omega)] at hv
  rw [show ((10 : Nat) : Int) = 10 from rfl, hv]
 | succ n ih =>
  intro i out hi ho hd hz hv
  refine Ev.succ ?_
  have h1 : (i : Int) < (a.length : Int) := by omega
  simp only [rEtimes.l0, if_pos h1]
  refine times_in a b ha hb hl _ i (by omega) (fun out h1 h2 h3 h4 => ih (i + 1) out (by omega) h1 h2 h3 h4) b.length 0 out 0 (by omega) ho hd hz (by omega) ?_
  simp [hv, Sv.vl, Sv.pw_zero]
theorem ref_times (a b : List Int) (ha : Sv.Digs 10 a) (hb : Sv.Digs 10 b) (hl : a.length + b.length ≤ 10000000000000) : Ev (fun k => rEtimes.f k a b) (Sv.dg 10 (Sv.vl 10 a * Sv.vl 10 b).toNat) := by
 unfold rEtimes.f
 have w : wrap64 ((a.length : Int) + (b.length : Int)) = ((a.length + b.length : Nat) : Int) := w64n (by omega) (by omega)
 rw [w]
 clear w
 have h1 : (0 : Int) ≤ ((a.length + b.length : Nat) : Int) := by omega
 have h2 : a.length + b.length ≤ 35184372088832 := by omega
 simp only [if_pos h1, Int.toNat_natCast, if_pos h2]
 refine times_ev a b ha hb hl a.length 0 _ (by omega) (by simp) (Sv.d_rep (by omega) _) (fun p hp => Sv.g_rep _ _) ?_
 rw [Sv.vl_replicate]; simp [Sv.vl]
theorem nd_mul (m n : Int) : Sv.nd (m * n) ≤ Sv.nd m + Sv.nd n := by
 have h1 := natAbs_lt_nd m
 have h2 := natAbs_lt_nd n
 refine Sv.nd_le (by have := Sv.nd_pos m; omega) ?_
 rw [Int.natAbs_mul, Nat.pow_add]
 exact Nat.mul_lt_mul'' h1 h2
theorem neg_mul_sign (m n : Int) : (if (decide (m < 0) != decide (n < 0)) = true then -((m.natAbs : Int) * n.natAbs) else (m.natAbs : Int) * n.natAbs) = m * n := by
 by_cases hm : m < 0 <;> by_cases hn : n < 0
 ·have e1 : (m.natAbs : Int) = -m := by omega
  have e2 : (n.natAbs : Int) = -n := by omega
  simp [hm, hn, e1, e2, Int.neg_mul, Int.mul_neg]
 ·have e1 : (m.natAbs : Int) = -m := by omega
  have e2 : (n.natAbs : Int) = n := by omega
  rw [if_pos (by simp [hm, hn]), e1, e2]; grind
 ·have e1 : (m.natAbs : Int) = m := by omega
  have e2 : (n.natAbs : Int) = -n := by omega
  rw [if_pos (by simp [hm, hn]), e1, e2]; grind
 ·have e1 : (m.natAbs : Int) = m := by omega
  have e2 : (n.natAbs : Int) = n := by omega
  rw [if_neg (by simp [hm, hn]), e1, e2]
theorem ref_Product (m n : Int) (hm : Sv.nd m ≤ 1000000000000) (hn : Sv.nd n ≤ 1000000000000) : Ev (fun k => rEProduct.f k (Sv.txt m) (Sv.txt n)) (Sv.txt (m * n)) := by
 unfold rEProduct.f
 refine Ev.bs (ref_Digits m (by omega)) (Ev.bs (ref_Digits n (by omega)) ?_)
 rw [(w64n (by omega) (by omega) : wrap64 ((Sv.nd m : Int) + (Sv.nd n : Int)) = ((Sv.nd m + Sv.nd n : Nat) : Int))]
 by_cases h : ((Sv.nd m + Sv.nd n : Nat) : Int) ≤ 18
 ·simp only [if_pos h]
  have hmul := nd_mul m n
  have p1 := Sv.nd_pos m
  have p2 := Sv.nd_pos n
  have b1 : m.natAbs < 100000000000000000 := (Sv.nd_le_iff (k := 17) (by omega)).1 (by omega)
  have b2 : n.natAbs < 100000000000000000 := (Sv.nd_le_iff (k := 17) (by omega)).1 (by omega)
  have b3 : (m * n).natAbs < 1000000000000000000 := (Sv.nd_le_iff (k := 18) (by omega)).1 (by omega)
  refine Ev.bind (ref_number m (by omega)) (Ev.bind (ref_number n (by omega)) ?_)
  rw [w64 (by omega) (by omega)]
  exact Ev.bind (ref_Whole (m * n) (by omega)) (Ev.of rfl)
 ·simp only [if_neg h]
  refine Ev.bind (ref_digits m (by omega)) (Ev.bind (ref_digits n (by omega)) ?_)
  refine Ev.bind (ref_times _ _ (dgs_digs m) (dgs_digs n) (by rw [dgs_length, dgs_length]; omega)) ?_
  refine Ev.bs (ref_Negative m) (Ev.bs (ref_Negative n) ?_)
  rw [vl_dgs, vl_dgs]
  have e : ((m.natAbs : Int) * (n.natAbs : Int)).toNat = (m * n).natAbs := by rw [Int.natAbs_mul, ← Int.natCast_mul, Int.toNat_natCast]
  rw [e]
  have hmul := nd_mul m n
  have := made_dg (m * n).natAbs (Sv.nd m + Sv.nd n) (by omega) (Nat.lt_of_lt_of_le (natAbs_lt_nd _) (Nat.pow_le_pow_right (by omega) hmul)) (decide (m < 0) != decide (n < 0))
  refine Ev.bind (this.eq ?_) (Ev.of rfl)
  rw [Int.natAbs_mul, Int.natCast_mul, neg_mul_sign]
set_option linter.unusedVariables false
set_option linter.unusedSimpArgs false
open Go.RowKit Go.Proofs.WWords Go.Proofs.WMore
theorem fdiv_uniq {m n q r : Int} (h : m = n * q + r) (hr : (0 ≤ r ∧ r < n) ∨ (n < r ∧ r ≤ 0)) : m.fdiv n = q ∧ m.fmod n = r := by
 rcases hr with ⟨h0, h1⟩ | ⟨h0, h1⟩
 ·rw [Int.fdiv_eq_ediv_of_nonneg m (by omega), Int.fmod_eq_emod_of_nonneg m (by omega)]
  have := (Int.ediv_emod_unique (a := m) (b := n) (r := r) (q := q) (by omega)).2 ⟨by rw [h]; omega, h0, h1⟩
  exact this
 ·have e1 : (-m).fdiv (-n) = m.fdiv n := Int.neg_fdiv_neg m n
  have e2 : (-m).ediv (-n) = q ∧ (-m).emod (-n) = -r := by
   refine (Int.ediv_emod_unique (a := -m) (b := -n) (r := -r) (q := q) (by omega)).2 ⟨?_, by omega, by omega⟩
   rw [Int.neg_mul]; omega
  have e3 : m.fdiv n = q := by rw [← e1, Int.fdiv_eq_ediv_of_nonneg _ (by omega)]; exact e2.1
  refine ⟨e3, ?_⟩
  have := Int.mul_fdiv_add_fmod m n
  rw [e3] at this
  omega
theorem floor_tdiv (m n : Int) (hn : n ≠ 0) : m.fdiv n = if m.tmod n = 0 then m.tdiv n else if (decide (m < 0) != decide (n < 0)) = true then m.tdiv n - 1 else m.tdiv n := by
 have h := Int.mul_tdiv_add_tmod m n
 have h1 : 0 ≤ m → 0 ≤ m.tmod n := fun h => Int.tmod_nonneg n h
 have h2 : m ≤ 0 → m.tmod n ≤ 0 := fun h => by
  have := Int.tmod_nonneg n (show 0 ≤ -m by omega)
  rw [Int.neg_tmod] at this
  omega
 have h3 : (m.tmod n).natAbs < n.natAbs := by rw [Int.natAbs_tmod]; exact Nat.mod_lt _ (by omega)
 generalize m.tmod n = r at *
 generalize m.tdiv n = q at *
 have hsub : n * (q - 1) = n * q - n := by rw [Int.mul_sub, Int.mul_one]
 split
 ·exact (fdiv_uniq (r := 0) (by omega) (by omega)).1
 ·split
  ·rename_i h0 hs
   refine (fdiv_uniq (r := r + n) (by rw [hsub]; omega) ?_).1
   by_cases hm : m < 0 <;> by_cases hn' : n < 0 <;> simp [hm, hn'] at hs
   ·left; omega
   ·right; omega
  ·rename_i h0 hs
   refine (fdiv_uniq (r := r) (by omega) ?_).1
   by_cases hm : m < 0 <;> by_cases hn' : n < 0 <;> simp [hm, hn'] at hs
   ·right; omega
   ·left; omega
theorem ref_floor (m n : Int) (hn : n ≠ 0) (h : m.natAbs ≤ 1000000000000000000) : rEfloor.f m n = some (m.fdiv n) := by
 have b : (m.tdiv n).natAbs ≤ 1000000000000000000 := by rw [Int.natAbs_tdiv]; exact Nat.le_trans (Nat.div_le_self _ _) h
 unfold rEfloor.f
 rw [if_neg hn, floor_tdiv m n hn]
 generalize m.tdiv n = q at *
 rw [(w64 (by omega) (by omega) : wrap64 q = q), (w64 (by omega) (by omega) : wrap64 (q - 1) = q - 1)]
 split
 ·rfl
 ·split <;> rfl
theorem vl_dgI (n : Nat) : Sv.vl 10 (Sv.dg 10 n) = n := Sv.vl_dg (b := 10) (by omega) n
theorem dg_noz10 (n : Nat) : Sv.NoZ (Sv.dg 10 n) := Sv.dg_noz (by omega) n
theorem split_in (a : List Int) (D : Nat) (hD : 0 < D) (hDl : (Sv.dg 10 D).length ≤ 1000000000000) (i : Nat) (hi : i ≤ 1000000000000) (R : List Int × List Int) (r : Nat) : ∀ (qs : List Int), i < qs.length → 0 ≤ qs.getD i 0 → qs.getD i 0 + (r / D : Nat) ≤ 1000 → (Sv.dg 10 r).length ≤ 1000000000001 →
  Ev (fun k => rEsplit.l0 k a (Sv.dg 10 D) (qs.set i (qs.getD i 0 + (r / D : Nat))) (Sv.dg 10 (r % D)) ((i : Int) - 1)) R →
  Ev (fun k => rEsplit.l1 k a (Sv.dg 10 D) qs (Sv.dg 10 r) i) R := by
 induction r using Nat.strongRecOn with
 | ind r ih =>
  intro qs hq h0 hb hl next
  refine Ev.succ ?_
  simp only [rEsplit.l1]
  refine Ev.bind (ref_order _ _ (dg10_digs r) (dg10_digs D) (dg_noz10 r) (dg_noz10 D) (by omega)) ?_
  rw [vl_dgI, vl_dgI]
  by_cases hc : D ≤ r
  ·refine Ev.pos (Int.sign_nonneg_iff.2 (by omega)) (Ev.bind (ref_minus _ _ (dg10_digs r) (dg10_digs D) (by omega) (by rw [vl_dgI, vl_dgI]; omega)) ?_)
   rw [vl_dgI, vl_dgI, show ((r : Int) - (D : Int)).toNat = r - D by omega]
   refine Ev.pos (by omega) (Ev.pos (by omega) ?_)
   have hdiv : r / D = (r - D) / D + 1 := Nat.div_eq_sub_div hD hc
   have hmod : r % D = (r - D) % D := Nat.mod_eq_sub_mod hc
   rw [hdiv] at next hb
   have hN := ih (r - D) (by omega)
   generalize (r - D) / D = Q at *
   rw [rd_nat, Int.toNat_natCast, (w64 (by omega) (by omega) : wrap64 (qs.getD i 0 + 1) = qs.getD i 0 + 1)]
   refine hN _ (by simpa using hq) ?_ ?_ (Nat.le_trans (Sv.dg_length_mono (by omega) (by omega)) hl) ?_
   ·rw [Sv.g_set_eq _ _ _ hq]; omega
   ·rw [Sv.g_set_eq _ _ _ hq]; omega
   ·rw [Sv.g_set_eq _ _ _ hq, List.set_set, ← hmod]
    rw [show qs.getD i 0 + 1 + (Q : Int) = qs.getD i 0 + ((Q + 1 : Nat) : Int) by omega]
    exact next
  ·refine Ev.neg (fun e => by have := Int.sign_nonneg_iff.1 e; omega) ?_
   rw [(w64 (by omega) (by omega) : wrap64 ((i : Int) - 1) = (i : Int) - 1)]
   rw [Nat.div_eq_of_lt (by omega), Nat.mod_eq_of_lt (by omega)] at next
   have e : qs.set i (qs.getD i 0 + (0 : Nat)) = qs := by
    have : qs.getD i 0 + ((0 : Nat) : Int) = qs[i] := by simp [List.getD, hq]
    rw [this]; exact List.set_getElem_self hq
   rw [e] at next
   exact next
theorem split_ev (a : List Int) (ha : Sv.Digs 10 a) (D : Nat) (hD : 0 < D) (hDl : (Sv.dg 10 D).length ≤ 1000000000000) (i : Nat) : ∀ (qs : List Int) (r : Nat), i ≤ qs.length → i ≤ a.length → i ≤ 1000000000000 → qs.length ≤ 1000000000000 → r < D → Sv.Digs 10 qs → (∀ p, p < i → qs.getD p 0 = 0) →
  Sv.vl 10 (a.drop i) = D * Sv.vl 10 (qs.drop i) + r →
  Ev (fun k => rEsplit.l0 k a (Sv.dg 10 D) qs (Sv.dg 10 r) ((i : Int) - 1)) (Sv.dg 10 ((Sv.vl 10 a).toNat / D), Sv.dg 10 ((Sv.vl 10 a).toNat % D)) := by
 induction i with
 | zero =>
  intro qs r hq hi hi2 hql hr hd hz hv
  refine Ev.succ ?_
  simp only [rEsplit.l0]
  refine Ev.neg (by omega) (Ev.bind (ref_cut qs (by omega)) (Ev.of ?_))
  rw [List.drop_zero, List.drop_zero] at hv
  have h0 := Sv.vl_nonneg (B := 10) (by omega) hd
  rw [Sv.cut_eq_dg (b := 10) (by omega) hd, hv]
  obtain ⟨q, hq'⟩ := Int.eq_ofNat_of_zero_le h0
  rw [show ((10 : Nat) : Int) = 10 from rfl, hq', Int.toNat_natCast, show (((D : Int) * (q : Int) + (r : Int))).toNat = D * q + r by rw [← Int.natCast_mul]; omega]
  rw [Nat.mul_add_div hD, Nat.div_eq_of_lt hr, Nat.mul_add_mod, Nat.mod_eq_of_lt hr, Nat.add_zero]
 | succ i ih =>
  intro qs r hq hi hi2 hql hr hd hz hv
  refine Ev.succ ?_
  simp only [rEsplit.l0]
  have da := Sv.g_digs (by omega) ha i
  have hrl : (Sv.dg 10 r).length ≤ 1000000000000 := Nat.le_trans (Sv.dg_length_mono (by omega) (by omega)) hDl
  have ed : Sv.vl 10 (a.drop i) = a.getD i 0 + 10 * Sv.vl 10 (a.drop (i + 1)) := by
   rw [List.drop_eq_getElem_cons (show i < a.length by omega), Sv.vl_cons]
   have : a.getD i 0 = a[i] := by simp [List.getD, show i < a.length by omega]
   rw [this]
  have eq' : ∀ v : Int, Sv.vl 10 ((qs.set i v).drop i) = v + 10 * Sv.vl 10 (qs.drop (i + 1)) := fun v => by
   rw [List.drop_eq_getElem_cons (show i < (qs.set i v).length by simp; omega), Sv.vl_cons]
   rw [List.getElem_set_self, List.drop_set, if_pos (by omega)]
  generalize hx : a.getD i 0 = x at *
  obtain ⟨x', rfl⟩ := Int.eq_ofNat_of_zero_le da.1
  rw [show ((i + 1 : Nat) : Int) - 1 = (i : Int) by omega]
  refine Ev.pos (by omega) (Ev.pos (by omega) (Ev.pos (by omega) ?_))
  rw [rd_nat, hx]
  refine Ev.bs rfl (Ev.pos (show [((x' : Nat) : Int)].length + (Sv.dg 10 r).length < 17592186044416 by simp; omega) ?_)
  have hdd : Sv.Digs 10 ([(x' : Int)] ++ Sv.dg 10 r) := Sv.Digs.cons (by omega) (by omega) (dg10_digs r)
  refine Ev.bind (ref_cut _ (by simp; omega)) ?_
  have hcut : Sv.cut ([(x' : Int)] ++ Sv.dg 10 r) = Sv.dg 10 (x' + 10 * r) := by
   rw [Sv.cut_eq_dg (b := 10) (by omega) hdd]
   congr 1
   rw [show ((10 : Nat) : Int) = 10 from rfl, List.singleton_append, Sv.vl_cons, vl_dgI]
   omega
  rw [hcut]
  have hlt : (x' + 10 * r) / D < 10 := by
   rw [Nat.div_lt_iff_lt_mul hD]
   omega
  have hmod := Nat.mod_lt (x' + 10 * r) hD
  have hdm := Nat.div_add_mod (x' + 10 * r) D
  have hz0 := hz i (by omega)
  have hlen : (Sv.dg 10 (x' + 10 * r)).length ≤ 1000000000001 := by
   rw [← hcut]
   rw [List.singleton_append]
   obtain ⟨k, hk⟩ := Sv.cut_spec ((x' : Int) :: Sv.dg 10 r)
   have := congrArg List.length hk
   simp at this
   omega
  have hS := split_in a D hD hDl i (by omega) (Sv.dg 10 ((Sv.vl 10 a).toNat / D), Sv.dg 10 ((Sv.vl 10 a).toNat % D)) (x' + 10 * r) qs (by omega) (by rw [hz0]; omega)
  rw [hz0] at hS
  generalize (x' + 10 * r) / D = Q at *
  refine hS (by omega) hlen ?_
  refine ih _ _ (by simp; omega) (by omega) (by omega) (by simpa using hql) hmod (Sv.d_set hd _ (by omega) (by omega)) (fun p hp => ?_) ?_
  ·rw [Sv.g_set _ _ _ _ (by omega)]; exact hz p (by omega)
  ·rw [eq', ed, hv]
   generalize Sv.vl 10 (qs.drop (i + 1)) = V at *
   generalize (x' + 10 * r) % D = M at *
   have : ((D * Q + M : Nat) : Int) = ((x' + 10 * r : Nat) : Int) := by rw [hdm]
   rw [Int.natCast_add, Int.natCast_mul] at this
   have e : (D : Int) * ((Q : Int) + 10 * V) = D * Q + 10 * (D * V) := by rw [Int.mul_add, Int.mul_left_comm]
   rw [Int.zero_add, e]
   omega
theorem noz_drop {l : List Int} (h : Sv.NoZ l) (i : Nat) : Sv.NoZ (l.drop i) := by
 unfold Sv.NoZ at *
 rw [List.getLast?_drop]
 split
 ·simp
 ·exact h
theorem pw_mono {i j : Nat} (h : i ≤ j) : Sv.pw 10 i ≤ Sv.pw 10 j := by
 rw [Sv.pw_eq, Sv.pw_eq]
 have := Nat.pow_le_pow_right (n := 10) (by omega) h
 exact_mod_cast this
theorem ref_split (A D : Nat) (hD : 0 < D) (hA : (Sv.dg 10 A).length ≤ 1000000000000 - 1) (hDl : (Sv.dg 10 D).length ≤ 1000000000000) :
  Ev (fun k => rEsplit.f k (Sv.dg 10 A) (Sv.dg 10 D)) (Sv.dg 10 (A / D), Sv.dg 10 (A % D)) := by
 have hb1 : 0 < (Sv.dg 10 D).length := List.length_pos_iff.2 (Sv.dg_ne_nil (by omega) hD)
 unfold rEsplit.f
 obtain ⟨N, hN⟩ : ∃ N : Nat, N = (Sv.dg 10 A).length + 1 - (Sv.dg 10 D).length := ⟨_, rfl⟩
 have hm : mx 0 (wrap64 ((wrap64 (((Sv.dg 10 A).length : Int) - ((Sv.dg 10 D).length : Int))) + 1)) = (N : Int) := by
  rw [(w64 (by omega) (by omega) : wrap64 (((Sv.dg 10 A).length : Int) - ((Sv.dg 10 D).length : Int)) = _), (w64 (by omega) (by omega) : wrap64 (((Sv.dg 10 A).length : Int) - ((Sv.dg 10 D).length : Int) + 1) = _)]
  unfold mx
  split <;> omega
 rw [hm]
 clear hm
 have hr : ((Sv.vl 10 ((Sv.dg 10 A).drop N)).toNat : Int) = Sv.vl 10 ((Sv.dg 10 A).drop N) := Int.toNat_of_nonneg (Sv.vl_nonneg (by omega) (Sv.d_drop (dg10_digs A) N))
 have hd : Sv.dg 10 (Sv.vl 10 ((Sv.dg 10 A).drop N)).toNat = (Sv.dg 10 A).drop N := Sv.dg_vl (b := 10) (by omega) (Sv.d_drop (dg10_digs A) N) (noz_drop (dg_noz10 A) N)
 have hlt : (Sv.vl 10 ((Sv.dg 10 A).drop N)).toNat < D := by
  have h1 := Sv.v_lt (B := 10) (by omega) (Sv.d_drop (dg10_digs A) N)
  have h2 := Sv.v_pos (B := 10) (by omega) (dg10_digs D) (dg_noz10 D) (by intro e; rw [e] at hb1; simp at hb1)
  have h3 := pw_mono (show ((Sv.dg 10 A).drop N).length ≤ (Sv.dg 10 D).length - 1 by rw [List.length_drop]; omega)
  rw [vl_dgI] at h2
  omega
 refine Ev.pos (by omega) (Ev.pos (by omega) (Ev.bs rfl (Ev.pos (by omega) (Ev.pos ?_ ?_))))
 ·simp; omega
 rw [Int.toNat_natCast, List.nil_append, (w64 (by omega) (by omega) : wrap64 ((N : Int) - 1) = (N : Int) - 1)]
 have := split_ev (Sv.dg 10 A) (dg10_digs A) D hD hDl N (List.replicate N 0) (Sv.vl 10 ((Sv.dg 10 A).drop N)).toNat (by simp) (by omega) (by omega) (by simp; omega) hlt (Sv.d_rep (by omega) _) (fun p _ => Sv.g_rep _ _) ?_
 ·rw [hd, vl_dgI, Int.toNat_natCast] at this
  exact this
 ·have e : (List.replicate N (0 : Int)).drop N = [] := List.drop_of_length_le (by simp)
  rw [hr, e, Sv.vl_nil, Int.mul_zero, Int.zero_add]
theorem fdiv_signs (m n : Int) (hn : n ≠ 0) : m.fdiv n = if (decide (m < 0) != decide (n < 0)) = true then -((m.natAbs / n.natAbs : Nat) : Int) - (if m.natAbs % n.natAbs = 0 then 0 else 1) else ((m.natAbs / n.natAbs : Nat) : Int) := by
 rw [floor_tdiv m n hn]
 have h3 : (m.tmod n).natAbs = m.natAbs % n.natAbs := Int.natAbs_tmod ..
 have h4 : (m.tdiv n).natAbs = m.natAbs / n.natAbs := Int.natAbs_tdiv ..
 have h5 : (decide (m < 0) != decide (n < 0)) = true → m.tdiv n ≤ 0 := fun h => by
  by_cases hm : m < 0 <;> by_cases hn' : n < 0 <;> simp [hm, hn'] at h
  ·have := Int.tdiv_nonneg (show 0 ≤ -m by omega) (show 0 ≤ n by omega)
   rw [Int.neg_tdiv] at this
   omega
  ·have := Int.tdiv_nonneg (show 0 ≤ m by omega) (show 0 ≤ -n by omega)
   rw [Int.tdiv_neg] at this
   omega
 have h6 : ¬ (decide (m < 0) != decide (n < 0)) = true → 0 ≤ m.tdiv n := fun h => by
  by_cases hm : m < 0 <;> by_cases hn' : n < 0 <;> simp [hm, hn'] at h
  ·have := Int.tdiv_nonneg (show 0 ≤ -m by omega) (show 0 ≤ -n by omega)
   rw [Int.neg_tdiv, Int.tdiv_neg] at this
   omega
  ·exact Int.tdiv_nonneg (by omega) (by omega)
 generalize m.natAbs / n.natAbs = Q at *
 generalize m.natAbs % n.natAbs = M at *
 generalize m.tdiv n = q at *
 generalize m.tmod n = r at *
 generalize (decide (m < 0) != decide (n < 0)) = b at *
 cases b
 ·have := h6 (by simp)
  simp only [Bool.false_eq_true, if_false]
  split <;> omega
 ·have := h5 rfl
  simp only [if_true]
  split <;> split <;> omega
theorem nd_fdiv (m n : Int) (hn : n ≠ 0) : Sv.nd (m.fdiv n) ≤ Sv.nd m + 1 := by
 refine Sv.nd_le (by omega) ?_
 have h := natAbs_lt_nd m
 have hq : m.natAbs / n.natAbs ≤ m.natAbs := Nat.div_le_self _ _
 have := fdiv_signs m n hn
 have hp : 10 ^ (Sv.nd m + 1) = 10 * 10 ^ Sv.nd m := by rw [Nat.pow_succ]; omega
 rw [hp, this]
 generalize m.natAbs / n.natAbs = Q at *
 generalize m.natAbs % n.natAbs = M at *
 generalize 10 ^ Sv.nd m = P at *
 generalize (decide (m < 0) != decide (n < 0)) = b at *
 cases b
 ·simp only [Bool.false_eq_true, if_false]; omega
 ·simp only [if_true]; split <;> omega
theorem txt1 : Sv.txt 1 = ⟨#[49]⟩ := by simp [Sv.txt, Sv.txtL, Sv.txtN, Sv.dg, Sv.dch]
theorem txt0 : Sv.txt 0 = ⟨#[48]⟩ := rfl
theorem Floor_long (m n : Int) (hn : n ≠ 0) (hm : Sv.nd m ≤ 100000000000) (hnd : Sv.nd n ≤ 100000000000) : Ev (fun k => rEFloor.j0 k (Sv.txt m) (Sv.txt n) false) (Sv.txt (m.fdiv n)) := by
 refine Ev.succ ?_
 simp only [rEFloor.j0]
 refine Ev.neg (by simp) ?_
 refine Ev.bind (ref_digits m (by omega)) (Ev.bind (ref_cut _ (by rw [dgs_length]; omega)) (Ev.bind (ref_digits n (by omega)) (Ev.bind (ref_cut _ (by rw [dgs_length]; omega)) ?_)))
 rw [cut_dgs, cut_dgs]
 have l1 := dg_nd m
 have l2 := dg_nd n
 refine Ev.bind (ref_split m.natAbs n.natAbs (by omega) (by omega) (by omega)) ?_
 refine Ev.bs (ref_Negative m) (Ev.bs (ref_Negative n) ?_)
 have hq : m.natAbs / n.natAbs < 10 ^ Sv.nd m := Nat.lt_of_le_of_lt (Nat.div_le_self _ _) (natAbs_lt_nd m)
 refine Ev.bind (made_dg _ _ (by omega) hq _) ?_
 refine Ev.bs (ref_Negative m) (Ev.bs (ref_Negative n) ?_)
 have hf := fdiv_signs m n hn
 have hl : (((Sv.dg 10 (m.natAbs % n.natAbs)).length : Int) > 0) ↔ ¬ m.natAbs % n.natAbs = 0 := by
  constructor
  ·intro h e
   rw [e, Sv.dg_zero] at h
   simp at h
  ·intro h
   have := List.length_pos_iff.2 (Sv.dg_ne_nil (b := 10) (by omega) (show 0 < m.natAbs % n.natAbs by omega))
   omega
 have hnq : Sv.nd (-((m.natAbs / n.natAbs : Nat) : Int)) ≤ 1000000000000 := by
  rw [Sv.nd_neg]
  exact Nat.le_trans (Sv.nd_le (Sv.nd_pos m) (by rw [Int.natAbs_natCast]; exact hq)) (by omega)
 generalize (decide (m < 0) != decide (n < 0)) = b at *
 cases b
 ·simp only [Bool.false_eq_true, if_false] at hf ⊢
  rw [hf]
  exact Ev.of rfl
 ·simp only [if_true] at hf ⊢
  by_cases hz : m.natAbs % n.natAbs = 0
  ·rw [if_pos hz] at hf
   refine Ev.neg (by rw [hl]; simpa using hz) (Ev.of ?_)
   rw [hf, Int.sub_zero]
  ·rw [if_neg hz] at hf
   refine Ev.pos (hl.2 hz) ?_
   refine Ev.bind (x := Sv.txt (m.fdiv n)) ?_ (Ev.of rfl)
   rw [hf, ← txt1]
   exact ref_Diff _ 1 hnq (Nat.le_trans (Sv.nd_le (k := 1) (by omega) (by decide)) (by omega))
theorem ref_Floor (m n : Int) (hn : n ≠ 0) (hm : Sv.nd m ≤ 100000000000) (hnd : Sv.nd n ≤ 100000000000) : Ev (fun k => rEFloor.f k (Sv.txt m) (Sv.txt n)) (Sv.txt (m.fdiv n)) := by
 unfold rEFloor.f
 refine Ev.bs (ref_short m 17 (by omega)) ?_
 by_cases h1 : (Sv.nd m : Int) ≤ 17
 ·refine Ev.pos (decide_eq_true h1) (Ev.bs (ref_short n 17 (by omega)) ?_)
  by_cases h2 : (Sv.nd n : Int) ≤ 17
  ·have b1 := nd17 h1
   have b2 := nd17 h2
   rw [decide_eq_true h2]
   refine Ev.succ ?_
   simp only [rEFloor.j0, if_true]
   refine Ev.bind (ref_number m (by omega)) (Ev.bind (ref_number n (by omega)) ?_)
   have h3 := nd_fdiv m n hn
   have h4 : (m.fdiv n).natAbs < 1000000000000000000 := (Sv.nd_le_iff (k := 18) (by omega)).1 (by omega)
   refine Ev.bs (ref_floor m n hn (by omega)) ?_
   exact Ev.bind (ref_Whole _ (by omega)) (Ev.of rfl)
  ·rw [decide_eq_false h2]
   exact Floor_long m n hn hm hnd
 ·refine Ev.neg (by simpa using h1) ?_
  exact Floor_long m n hn hm hnd
theorem nd_mono {m n : Int} (h : m.natAbs ≤ n.natAbs) : Sv.nd m ≤ Sv.nd n := Sv.nd_le (Sv.nd_pos n) (Nat.lt_of_le_of_lt h (natAbs_lt_nd n))
theorem ref_Rest (m n : Int) (hn : n ≠ 0) (hm : Sv.nd m ≤ 100000000000) (hnd : Sv.nd n ≤ 100000000000) : Ev (fun k => rERest.f k (Sv.txt m) (Sv.txt n)) (Sv.txt (m.fmod n)) := by
 unfold rERest.f
 have h1 := nd_fdiv m n hn
 have h2 := nd_mul n (m.fdiv n)
 refine Ev.bind (ref_Floor m n hn hm hnd) (Ev.bind (ref_Product n _ (by omega) (by omega)) ?_)
 refine Ev.bind ((ref_Diff m (n * m.fdiv n) (by omega) (by omega)).eq ?_) (Ev.of rfl)
 have := Int.mul_fdiv_add_fmod m n
 congr 1
 omega
theorem Common_ev (y : Nat) : ∀ x : Nat, Sv.nd (x : Int) ≤ 100000000000 → Sv.nd (y : Int) ≤ 100000000000 → Ev (fun k => rECommon.l0 k (Sv.txt x) (Sv.txt y)) (Sv.txt (Nat.gcd x y)) := by
 induction y using Nat.strongRecOn with
 | ind y ih =>
  intro x hx hy
  refine Ev.succ ?_
  simp only [rECommon.l0]
  by_cases h : y = 0
  ·subst h
   refine Ev.pos ((txt_eq0 _).2 rfl) (Ev.of ?_)
   rw [Nat.gcd_zero_right]
  ·refine Ev.neg (fun e => h (by have := (txt_eq0 _).1 e; omega)) ?_
   refine Ev.bind (ref_Rest x y (by omega) hx hy) ?_
   have e : (x : Int).fmod (y : Int) = ((x % y : Nat) : Int) := by
    rw [Int.fmod_eq_emod_of_nonneg _ (by omega)]; rfl
   rw [e]
   have hlt := Nat.mod_lt x (show 0 < y by omega)
   refine (ih (x % y) hlt y hy (Nat.le_trans (nd_mono (by omega)) hy)).eq ?_
   congr 2
   rw [Nat.gcd_comm x y, Nat.gcd_rec y x, Nat.gcd_comm]
theorem ref_Common (m n : Int) (hm : Sv.nd m ≤ 100000000000) (hn : Sv.nd n ≤ 100000000000) : Ev (fun k => rECommon.f k (Sv.txt m) (Sv.txt n)) (Sv.txt (Int.gcd m n)) := by
 unfold rECommon.f
 refine Ev.bs (ref_Magnitude m) (Ev.bs (ref_Magnitude n) ?_)
 exact Common_ev n.natAbs m.natAbs (by rw [Sv.nd_natAbs]; exact hm) (by rw [Sv.nd_natAbs]; exact hn)
set_option linter.unusedVariables false
set_option linter.unusedSimpArgs false
noncomputable def canoB (s : ByteArray) : Bool := @decide (Sv.Cano s) (Classical.propDecidable _)
theorem canoB_iff {s : ByteArray} : canoB s = true ↔ Sv.Cano s := by unfold canoB; exact @decide_eq_true_iff _ (Classical.propDecidable _)
theorem canoB_eq {s : ByteArray} {b : Bool} (h : b = true ↔ Sv.Cano s) : canoB s = b := by
 rw [Bool.eq_iff_iff, canoB_iff]; exact h.symm
theorem canoB_txt (n : Int) : canoB (Sv.txt n) = true := canoB_iff.2 ⟨n, rfl⟩
noncomputable def chkI (s : ByteArray) : Int := if canoB s = true then (if (Sv.nd (Sv.val s) : Int) > 4096 then 10 else 0) else 3
theorem chkI_txt (n : Int) : chkI (Sv.txt n) = if (Sv.nd n : Int) > 4096 then 10 else 0 := by
 unfold chkI; rw [if_pos (canoB_txt n), Sv.val_txt]
theorem chkI_small {n : Int} (h : Sv.nd n ≤ 4096) : chkI (Sv.txt n) = 0 := by rw [chkI_txt, if_neg (by omega)]
theorem sz_list (s : ByteArray) : s.data.toList.length = s.size := Array.length_toList
theorem form_l0 (s : ByteArray) (hs : s.size ≤ 1000000000000000000) (j : Nat) : ∀ i : Nat, i + j = s.size → Ev (fun k => rEForm.l0 k s i) (decide (AllD (s.data.toList.drop i))) := by
 induction j with
 | zero =>
  intro i hi
  refine Ev.succ ?_
  simp only [rEForm.l0]
  refine Ev.neg (by omega) (Ev.of ?_)
  rw [List.drop_eq_nil_of_le (by rw [sz_list]; omega)]
  rfl
 | succ j ih =>
  intro i hi
  refine Ev.succ ?_
  have hi' : i < s.data.toList.length := by rw [sz_list]; omega
  have ed : s.data.toList.drop i = s.data.toList[i] :: s.data.toList.drop (i + 1) := List.drop_eq_getElem_cons hi'
  simp only [rEForm.l0]
  rw [bt_nat s i (by omega)]
  refine Ev.pos (by omega) (Ev.pos (by omega) ?_)
  by_cases h1 : ((s.data.toList[i]).toNat : Int) < 48
  ·refine Ev.pos h1 (Ev.of ?_)
   rw [ed]
   congr 1; symm; apply decide_eq_false
   intro h
   have := h _ (List.mem_cons_self ..)
   omega
  ·refine Ev.neg h1 ?_
   by_cases h2 : ((s.data.toList[i]).toNat : Int) > 57
   ·refine Ev.pos h2 (Ev.of ?_)
    rw [ed]
    congr 1; symm; apply decide_eq_false
    intro h
    have := h _ (List.mem_cons_self ..)
    omega
   ·refine Ev.neg h2 ?_
    rw [(w64n (by omega) (by omega) : wrap64 ((i : Int) + 1) = ((i + 1 : Nat) : Int))]
    refine (ih (i + 1) (by omega)).eq ?_
    rw [ed]
    apply decide_eq_decide.2
    refine ⟨fun h c hc => ?_, fun h c hc => h c (List.mem_cons_of_mem _ hc)⟩
    rcases List.mem_cons.1 hc with rfl | hc
    ·omega
    ·exact h c hc
theorem toList_iff (s : ByteArray) (l : List UInt8) : s.toList = l ↔ s.data.toList = l := by rw [ByteArray.toList_eq]
theorem u8_eq {c : UInt8} {n : Nat} (hn : n < 256) : ((c.toNat : Int) = (n : Int)) ↔ c = UInt8.ofNat n := by
 constructor
 ·intro h
  apply UInt8.toNat_inj.1
  rw [UInt8.toNat_ofNat_of_lt' hn]; omega
 ·rintro rfl
  rw [UInt8.toNat_ofNat_of_lt' hn]
theorem u8_48 {c : UInt8} : ((c.toNat : Int) = 48) ↔ c = 48 := u8_eq (n := 48) (by omega)
theorem u8_45 {c : UInt8} : ((c.toNat : Int) = 45) ↔ c = 45 := u8_eq (n := 45) (by omega)
theorem u8_47 {c : UInt8} : ((c.toNat : Int) = 47) ↔ c = 47 := u8_eq (n := 47) (by omega)
theorem pos_iff {l : List UInt8} : Sv.Pos l ↔ l ≠ [] ∧ l.head? ≠ some 48 ∧ AllD l := ⟨fun h => ⟨h.ne, h.head, h.digs⟩, fun h => ⟨h.1, h.2.1, h.2.2⟩⟩
theorem cano_neg {s : ByteArray} {m : List UInt8} (h : s.data.toList = 45 :: m) : Sv.Cano s ↔ Sv.Pos m := by
 rw [Sv.cano_iff, h]
 constructor
 ·rintro (h | h | ⟨m', h, hm⟩)
  ·cases h
  ·exact absurd (h.digs 45 (by simp)).1 (by decide)
  ·cases h; exact hm
 ·exact fun h => .inr (.inr ⟨m, rfl, h⟩)
theorem cano_nn {s : ByteArray} (h0 : s.data.toList.head? ≠ some 45) (h48 : s.data.toList ≠ [48]) : Sv.Cano s ↔ Sv.Pos s.data.toList := by
 rw [Sv.cano_iff]
 constructor
 ·rintro (h | h | ⟨m', h, hm⟩)
  ·exact absurd h h48
  ·exact h
  ·rw [h] at h0; simp at h0
 ·exact fun h => .inr (.inl h)
theorem form_j1 (s : ByteArray) (hs : s.size ≤ 1000000000000000000) (i : Nat) (hi : i ≤ s.size) (h : Sv.Cano s ↔ Sv.Pos (s.data.toList.drop i)) : Ev (fun k => rEForm.j1 k s i) (canoB s) := by
 refine Ev.succ ?_
 simp only [rEForm.j1]
 by_cases he : i = s.size
 ·refine Ev.pos (by omega) (Ev.succ ?_)
  simp only [rEForm.j2, if_true]
  refine Ev.of ?_
  congr 1; symm; apply canoB_eq
  rw [h, List.drop_eq_nil_of_le (by rw [sz_list]; omega)]
  exact ⟨fun h => by simp at h, fun h => absurd rfl h.ne⟩
 ·have hi' : i < s.data.toList.length := by rw [sz_list]; omega
  have ed : s.data.toList.drop i = s.data.toList[i] :: s.data.toList.drop (i + 1) := List.drop_eq_getElem_cons hi'
  refine Ev.neg (by omega) (Ev.pos (by omega) (Ev.pos (by omega) (Ev.succ ?_)))
  simp only [rEForm.j2]
  rw [bt_nat s i (by omega)]
  by_cases hz : s.data.toList[i] = 48
  ·refine Ev.pos (by rw [hz]; rfl) (Ev.of ?_)
   congr 1; symm; apply canoB_eq
   rw [h, ed, hz]
   exact ⟨fun h => by simp at h, fun h => absurd rfl h.head⟩
  ·refine Ev.neg (by rw [beq_iff_eq, u8_48]; exact hz) ((form_l0 s hs (s.size - i) i (by omega)).eq ?_)
   symm; apply canoB_eq
   rw [h, pos_iff, decide_eq_true_iff]
   refine ⟨fun h => ⟨by rw [ed]; simp, by rw [ed]; simpa using hz, h⟩, fun h => h.2.2⟩
theorem ref_Form (s : ByteArray) (hs : s.size ≤ 1000000000000000000) : Ev (fun k => rEForm.f k s) (canoB s) := by
 unfold rEForm.f
 by_cases h48 : s.toList = [48]
 ·refine Ev.pos h48 (Ev.of ?_)
  congr 1; symm; apply canoB_eq
  rw [toList_iff] at h48
  exact ⟨fun _ => Sv.cano_iff.2 (.inl h48), fun _ => rfl⟩
 ·refine Ev.neg h48 ?_
  rw [toList_iff] at h48
  by_cases h0 : s.size = 0
  ·have hnil : s.data.toList = [] := List.length_eq_zero_iff.1 (by rw [sz_list]; exact h0)
   refine Ev.neg (by omega) (Ev.succ ?_)
   simp only [rEForm.j0]
   refine Ev.neg (by simp) (form_j1 s hs 0 (by omega) ?_)
   rw [List.drop_zero]
   exact cano_nn (by rw [hnil]; simp) h48
  ·have hl : 0 < s.data.toList.length := by rw [sz_list]; omega
   have ed : s.data.toList = s.data.toList[0] :: s.data.toList.drop 1 := List.drop_eq_getElem_cons hl
   refine Ev.pos (by omega) (Ev.pos (by omega) (Ev.succ ?_))
   simp only [rEForm.j0]
   have hb := bt_nat s 0 (by omega)
   rw [show ((0 : Nat) : Int) = 0 from rfl] at hb
   rw [hb]
   by_cases h45 : s.data.toList[0] = 45
   ·refine Ev.pos (by rw [h45]; rfl) (form_j1 s hs 1 (by omega) ?_)
    exact cano_neg (by conv => lhs; rw [ed, h45])
   ·refine Ev.neg (by rw [beq_iff_eq, u8_45]; exact h45) (form_j1 s hs 0 (by omega) ?_)
    rw [List.drop_zero]
    exact cano_nn (by rw [ed]; simpa using h45) h48
theorem nd_size (n : Int) : Sv.nd n ≤ (Sv.txt n).size := by rw [Sv.txt_size]; omega
theorem ref_Check (s : ByteArray) (hs : s.size ≤ 1000000000000000000) : Ev (fun k => rECheck.f k s) (chkI s) := by
 unfold rECheck.f
 refine Ev.bind (ref_Form s hs) ?_
 unfold chkI
 by_cases h : canoB s = true
 ·refine Ev.pos h ?_
  rw [if_pos h]
  obtain ⟨n, rfl⟩ := canoB_iff.1 h
  have := nd_size n
  refine Ev.bs (ref_Digits n (by omega)) ?_
  rw [Sv.val_txt]
  split <;> exact Ev.of rfl
 ·refine Ev.neg h ?_
  rw [if_neg h]
  exact Ev.of rfl
theorem cut45 (s : ByteArray) : strings_CutPrefix.f s ⟨#[45]⟩ = some (if s.data.toList.head? = some 45 then (⟨(s.data.toList.drop 1).toArray⟩, true) else (s, false)) := by
 unfold strings_CutPrefix.f Lib.trimPrefix Lib.hasPrefix
 show some ((⟨(if ([45] : List UInt8).isPrefixOf s.data.toList = true then s.data.toList.drop 1 else s.data.toList).toArray⟩ : ByteArray), ([45] : List UInt8).isPrefixOf s.data.toList) = _
 cases hl : s.data.toList with
 | nil =>
  simp only [List.isPrefixOf, List.head?_nil, reduceCtorEq, if_false, Bool.false_eq_true]
  rw [← hl]
 | cons c m =>
  by_cases hc : c = 45
  ·subst hc; simp [List.isPrefixOf]
  ·have : ((45 : UInt8) == c) = false := by simpa using fun e => hc e.symm
   simp only [List.isPrefixOf, this, Bool.false_and, Bool.false_eq_true, if_false, List.head?_cons, Option.some.injEq, hc]
   rw [← hl]
theorem ba_mk (l : List UInt8) : (⟨l.toArray⟩ : ByteArray).data.toList = l := by simp
theorem mk_size (l : List UInt8) : (⟨l.toArray⟩ : ByteArray).size = l.length := by show l.toArray.size = _; simp
theorem dropWhile_nil {l : List UInt8} {p : UInt8 → Bool} (h : l.dropWhile p = []) : ∀ c ∈ l, p c = true := by
 induction l with
 | nil => simp
 | cons a l ih =>
  rw [List.dropWhile_cons] at h
  split at h
  ·intro c hc
   rcases List.mem_cons.1 hc with rfl | hc
   ·assumption
   ·exact ih h c hc
  ·cases h
theorem dig_mem (c : UInt8) : ([48, 49, 50, 51, 52, 53, 54, 55, 56, 57] : List UInt8).contains c = true ↔ 48 ≤ c.toNat ∧ c.toNat ≤ 57 := by
 have key : ∀ n : Fin 256, (([48, 49, 50, 51, 52, 53, 54, 55, 56, 57] : List UInt8).contains (UInt8.ofNat n.val) = true ↔ 48 ≤ n.val ∧ n.val ≤ 57) := by decide +kernel
 have := key ⟨c.toNat, c.toNat_lt⟩
 simpa using this
theorem trimS_nil (l : List UInt8) : Lib.trimS l [48, 49, 50, 51, 52, 53, 54, 55, 56, 57] = [] ↔ AllD l := by
 unfold Lib.trimS Lib.trimLeftS Lib.trimRightS
 constructor
 ·intro h c hc
  have h1 := dropWhile_nil h
  by_cases hd : ([48, 49, 50, 51, 52, 53, 54, 55, 56, 57] : List UInt8).contains c = true
  ·exact (dig_mem c).1 hd
  ·exfalso
   have h2 : l.reverse.dropWhile (([48, 49, 50, 51, 52, 53, 54, 55, 56, 57] : List UInt8).contains ·) = [] := by
    cases hq : l.reverse.dropWhile (([48, 49, 50, 51, 52, 53, 54, 55, 56, 57] : List UInt8).contains ·) with
    | nil => rfl
    | cons a t =>
     have ha := List.head?_dropWhile_not (([48, 49, 50, 51, 52, 53, 54, 55, 56, 57] : List UInt8).contains ·) l.reverse
     rw [hq] at ha
     have := h1 a (by rw [hq]; simp)
     simp only [List.head?_cons] at ha
     rw [this] at ha
     cases ha
   exact hd (dropWhile_nil h2 c (List.mem_reverse.2 hc))
 ·intro h
  have h2 : l.reverse.dropWhile (([48, 49, 50, 51, 52, 53, 54, 55, 56, 57] : List UInt8).contains ·) = [] := by
   have : ∀ m : List UInt8, AllD m → m.dropWhile (([48, 49, 50, 51, 52, 53, 54, 55, 56, 57] : List UInt8).contains ·) = [] := by
    intro m hm
    induction m with
    | nil => rfl
    | cons a m ih =>
     rw [List.dropWhile_cons, if_pos ((dig_mem a).2 (hm a (by simp)))]
     exact ih fun c hc => hm c (by simp [hc])
   exact this _ fun c hc => h c (List.mem_reverse.1 hc)
  rw [h2]; rfl
theorem canon_in (s t : ByteArray) (neg : Bool) (hs : t.size ≤ 1000000000000000000) (h : Sv.Cano s ↔ (t.data.toList = [48] ∧ neg = false) ∨ Sv.Pos t.data.toList) :
  (if t.toList = ([48] : List UInt8) then (some (!neg)) else (if t.toList = ([] : List UInt8) then (some false) else (if 0 < (t.size : Int) then (if (bt t 0) = 48 then (some false) else ((strings_Trim.f t (⟨#[48, 49, 50, 51, 52, 53, 54, 55, 56, 57]⟩ : ByteArray)).bind fun t104 => (some (t104.toList == ([] : List UInt8))))) else (none)))) = some (canoB s) := by
 rw [ByteArray.toList_eq t]
 by_cases h48 : t.data.toList = [48]
 ·rw [if_pos h48]
  congr 1; symm; apply canoB_eq
  rw [h, h48]
  cases neg
  ·simp
  ·refine ⟨fun h => by simp at h, ?_⟩
   rintro (h | h)
   ·cases h.2
   ·exact absurd rfl h.head
 ·rw [if_neg h48]
  by_cases h0 : t.data.toList = []
  ·rw [if_pos h0]
   congr 1; symm; apply canoB_eq
   rw [h, h0]
   refine ⟨fun h => by simp at h, ?_⟩
   rintro (h | h)
   ·cases h.1
   ·exact absurd rfl h.ne
  ·rw [if_neg h0]
   have hl : 0 < t.data.toList.length := List.length_pos_iff.2 h0
   have hl' : 0 < t.size := by rw [← sz_list]; exact hl
   have ed : t.data.toList = t.data.toList[0] :: t.data.toList.drop 1 := List.drop_eq_getElem_cons hl
   have hb := bt_nat t 0 hl'
   rw [show ((0 : Nat) : Int) = 0 from rfl] at hb
   rw [if_pos (by omega), hb]
   by_cases hz : t.data.toList[0] = 48
   ·rw [if_pos (u8_48.2 hz)]
    congr 1; symm; apply canoB_eq
    rw [h]
    refine ⟨fun h => by simp at h, ?_⟩
    rintro (h | h)
    ·exact absurd h.1 h48
    ·exact absurd (by rw [ed, hz]; rfl) h.head
   ·rw [if_neg (fun e => hz (u8_48.1 e))]
    unfold strings_Trim.f
    rw [if_pos ⟨by omega, by decide, by decide⟩, Option.bind_some]
    congr 1; symm; apply canoB_eq
    rw [beq_iff_eq, toList_iff, ba_mk, h]
    show Lib.trimS t.data.toList [48, 49, 50, 51, 52, 53, 54, 55, 56, 57] = [] ↔ _
    rw [trimS_nil, pos_iff]
    constructor
    ·intro h; exact .inr ⟨h0, by rw [ed]; simpa using hz, h⟩
    ·rintro (h | h)
     ·exact absurd h.1 h48
     ·exact h.2.2
theorem bi_canonical (s : ByteArray) (hs : s.size ≤ 1000000000000000000) : bIcanonical.f s = some (canoB s) := by
 unfold bIcanonical.f
 rw [cut45, Option.bind_some]
 by_cases h : s.data.toList.head? = some 45
 ·rw [if_pos h]
  obtain ⟨m, hm⟩ : ∃ m, s.data.toList = 45 :: m := by
   cases hl : s.data.toList with
   | nil => rw [hl] at h; simp at h
   | cons c m => rw [hl] at h; simp at h; exact ⟨m, by rw [h]⟩
  have hsz := sz_list s
  refine canon_in s _ true ?_ ?_
  ·rw [mk_size, List.length_drop]; omega
  ·rw [ba_mk, hm, List.drop_one, List.tail_cons, cano_neg hm]
   simp
 ·rw [if_neg h]
  refine canon_in s s false hs ?_
  by_cases h48 : s.data.toList = [48]
  ·rw [Sv.cano_iff]
   simp [h48]
  ·rw [cano_nn h h48]
   simp [h48]
theorem trimP45 (s : ByteArray) (hs : s.size ≤ 1000000000000000000) : strings_TrimPrefix.f s ⟨#[45]⟩ = some (if s.data.toList.head? = some 45 then s.extract 1 s.size else s) := by
 unfold strings_TrimPrefix.f stringslite_TrimPrefix.f stringslite_HasPrefix.f
 have e1 : (⟨#[45]⟩ : ByteArray).size = 1 := rfl
 have e2 : (⟨#[45]⟩ : ByteArray).toList = [45] := by rw [ByteArray.toList_eq]
 rw [e1]
 by_cases h0 : s.size = 0
 ·have hnil : s.data.toList = [] := List.length_eq_zero_iff.1 (by rw [sz_list]; exact h0)
  rw [if_neg (by omega), hnil]
  rfl
 ·rw [if_pos (by omega), if_pos (by omega), if_pos (by omega), Option.bind_some]
  have he : (s.extract 0 1).data.toList = s.data.toList.take 1 := by
   rw [← ByteArray.toList_eq, Lib.extract_toList]
   simp
  have : ((s.extract 0 ((1 : Nat) : Int).toNat).toList == (⟨#[45]⟩ : ByteArray).toList) = decide (s.data.toList.head? = some 45) := by
   rw [e2, Bool.eq_iff_iff, beq_iff_eq, ByteArray.toList_eq, decide_eq_true_iff]
   show (s.extract 0 1).data.toList = _ ↔ _
   rw [he]
   cases s.data.toList <;> simp
  rw [this]
  by_cases h : s.data.toList.head? = some 45
  ·rw [if_pos h, decide_eq_true h, if_pos rfl, if_pos (by omega), if_pos (by omega)]
   rfl
  ·rw [if_neg h, decide_eq_false h]
   rfl
theorem head45 (n : Int) : (Sv.txt n).data.toList.head? = some 45 ↔ n < 0 := by
 show (Sv.txtL n).head? = some 45 ↔ _
 unfold Sv.txtL
 by_cases h : n < 0
 ·simp [h]
 ·simp only [if_neg h, h, iff_false]; exact Sv.txtN_head _
theorem ext1 (n : Int) (h : n < 0) : (Sv.txt n).extract 1 (Sv.txt n).size = Sv.txt n.natAbs := by
 have := ref_Magnitude n
 unfold rEMagnitude.f at this
 rw [ref_Negative, Option.bind_some, decide_eq_true h, if_pos rfl, if_pos (by have := txt_size_pos n; omega)] at this
 exact Option.some.inj this
theorem trimP_txt (n : Int) (h : Sv.nd n ≤ 100000000000000000) : strings_TrimPrefix.f (Sv.txt n) ⟨#[45]⟩ = some (Sv.txt n.natAbs) := by
 have hs := Sv.txt_size n
 rw [trimP45 _ (by rw [hs]; split <;> omega)]
 congr 1
 by_cases hn : n < 0
 ·rw [if_pos ((head45 n).2 hn), ext1 n hn]
 ·rw [if_neg (fun e => hn ((head45 n).1 e)), show ((n.natAbs : Nat) : Int) = n by omega]
theorem size_abs (n : Int) : (Sv.txt (n.natAbs : Int)).size = Sv.nd n := by
 rw [Sv.txt_size, if_neg (by omega), Sv.nd_natAbs]; rfl
theorem bi_digits (n : Int) (h : Sv.nd n ≤ 100000000000000000) : bIdigits.f (Sv.txt n) = some (Sv.nd n : Int) := by
 unfold bIdigits.f
 rw [trimP_txt n h, Option.bind_some, size_abs]
theorem bi_Check (s : ByteArray) (hs : s.size ≤ 100000000000000000) : bICheck.f s = some (chkI s) := by
 unfold bICheck.f chkI
 rw [bi_canonical s (by omega), Option.bind_some]
 by_cases h : canoB s = true
 ·rw [if_pos h, if_pos h]
  obtain ⟨n, rfl⟩ := canoB_iff.1 h
  have := nd_size n
  rw [bi_digits n (by omega), Option.bind_some, Sv.val_txt]
  split <;> rfl
 ·rw [if_neg h, if_neg h]
set_option linter.unusedVariables false
set_option linter.unusedSimpArgs false
theorem trim_ev (n : Nat) : ∀ l : List Int, l.length = n → n ≤ 9000000000000000000 → Ev (fun k => bItrim.l0 k l) (Sv.cut l) := by
 induction n with
 | zero =>
  intro l hl hb
  have : l = [] := List.length_eq_zero_iff.1 hl
  subst this
  refine Ev.succ ?_
  simp only [bItrim.l0]
  refine Ev.neg (by simp) (Ev.of ?_)
  rw [Sv.cut_of_noz (by simp [Sv.NoZ])]
 | succ n ih =>
  intro l hl hb
  refine Ev.succ ?_
  simp only [bItrim.l0]
  rw [hl]
  have hne : l ≠ [] := by intro e; rw [e] at hl; simp at hl
  have hg : l.getD n 0 = l.getLast hne := by
   rw [List.getLast_eq_getElem]
   simp [List.getD, show n < l.length by omega, hl]
  have hq : l.getLast? = some (l.getLast hne) := List.getLast?_eq_some_getLast hne
  rw [(w64n (by omega) (by omega) : wrap64 (((n + 1 : Nat) : Int) - 1) = (n : Int)), rd_nat, hg, Int.toNat_natCast]
  refine Ev.pos (by omega) (Ev.pos (by omega) (Ev.pos (by omega) ?_))
  by_cases hz : l.getLast hne = 0
  ·refine Ev.pos hz (Ev.pos (by omega) ((ih (l.take n) (by simp; omega) (by omega)).eq ?_))
   conv => rhs; rw [Sv.cut, hq, hz, if_pos rfl]
   rw [List.dropLast_eq_take, hl]
   rfl
  ·refine Ev.neg hz (Ev.of ?_)
   rw [Sv.cut_of_noz]
   unfold Sv.NoZ
   rw [hq]
   simpa using hz
theorem bi_trim (l : List Int) (hl : l.length ≤ 9000000000000000000) : Ev (fun k => bItrim.f k l) (Sv.cut l) := trim_ev _ l rfl hl
abbrev mag (n : Nat) : List Int := Sv.dg 1000000000 n
theorem mag_digs (n : Nat) : Sv.Digs 1000000000 (mag n) := Sv.dg_digs (b := 1000000000) (by omega) n
theorem mag_noz (n : Nat) : Sv.NoZ (mag n) := Sv.dg_noz (by omega) n
theorem vl_mag (n : Nat) : Sv.vl 1000000000 (mag n) = n := Sv.vl_dg (b := 1000000000) (by omega) n
theorem mag_zero : mag 0 = [] := Sv.dg_zero _
theorem mag_ne {n : Nat} (h : 0 < n) : mag n ≠ [] := Sv.dg_ne_nil (by omega) h
theorem mag_len0 (n : Nat) : (mag n).length = 0 ↔ n = 0 := by
 constructor
 ·intro h
  rcases Nat.eq_zero_or_pos n with h0 | h0
  ·exact h0
  ·exact absurd (List.length_eq_zero_iff.1 h) (mag_ne h0)
 ·rintro rfl; rw [mag_zero]; rfl
theorem cut_mag {l : List Int} (h : Sv.Digs 1000000000 l) {n : Nat} (hv : Sv.vl 1000000000 l = n) : Sv.cut l = mag n := by
 rw [Sv.cut_eq_dg (b := 1000000000) (by omega) h]
 show Sv.dg 1000000000 (Sv.vl 1000000000 l).toNat = _
 rw [hv, Int.toNat_natCast]
theorem mag_mono {m n : Nat} (h : m ≤ n) : (mag m).length ≤ (mag n).length := Sv.dg_length_mono (by omega) h
theorem add_inv {B V I X Y c x y z : Int} (hv : V + I * c = X + Y) (hz : z = c + x + y) : V + I * (z % B - 0) + B * I * (z / B) = (X + I * x) + (Y + I * y) := by
 have h := Int.emod_add_mul_ediv z B
 generalize z % B = r at *
 generalize z / B = s at *
 have : r = z - B * s := by omega
 subst this
 subst hz
 grind
theorem dm {z B : Int} (h0 : 0 ≤ z) (hB : 0 < B) (h : z ≤ 9000000000000000000) : Int.tmod z B = z % B ∧ wrap64 (Int.tdiv z B) = z / B := by
 have h1 : z / B ≤ z := Int.ediv_le_self _ h0
 have h2 : 0 ≤ z / B := Int.ediv_nonneg h0 (by omega)
 rw [Int.tdiv_eq_ediv_of_nonneg h0]
 exact ⟨Int.tmod_eq_emod_of_nonneg h0, w64 (by omega) (by omega)⟩
theorem plus_in (x y : List Int) (hx : Sv.Digs 1000000000 x) (hy : Sv.Digs 1000000000 y) (hl : y.length ≤ x.length) (hb : x.length ≤ 1000000000000) (n : Nat) : ∀ (i : Nat) (out : List Int) (c : Int), i + n = x.length + 1 → out.length = x.length + 1 → Sv.Digs 1000000000 out → (∀ p, i ≤ p → out.getD p 0 = 0) → 0 ≤ c ∧ c ≤ 1 →
  Sv.vl 1000000000 out + Sv.pw 1000000000 i * c = Sv.vl 1000000000 (x.take i) + Sv.vl 1000000000 (y.take i) →
  Ev (fun k => bIplus0.l0 k x y out c (out.length : Int) i) (mag (Sv.vl 1000000000 x + Sv.vl 1000000000 y).toNat) := by
 induction n with
 | zero =>
  intro i out c hi ho hd hz hc hv
  refine Ev.succ ?_
  simp only [bIplus0.l0]
  refine Ev.neg (by omega) (Ev.bind (bi_trim out (by omega)) (Ev.of ?_))
  have h1 := Sv.v_lt (B := 1000000000) (by decide) hd
  have h2 := Sv.vl_nonneg (B := 1000000000) (by decide) hd
  have h3 := Sv.vl_nonneg (B := 1000000000) (by decide) hx
  have h4 := Sv.vl_nonneg (B := 1000000000) (by decide) hy
  have h5 := Sv.v_lt (B := 1000000000) (by decide) hx
  have h6 := Sv.v_lt (B := 1000000000) (by decide) hy
  rw [List.take_of_length_le (by omega), List.take_of_length_le (by omega)] at hv
  have e : Sv.pw 1000000000 (x.length + 1) = 1000000000 * Sv.pw 1000000000 x.length := Sv.pw_s _ _
  have hm : Sv.pw 1000000000 y.length ≤ Sv.pw 1000000000 x.length := Sv.pw_mono (by decide) hl
  have hi' : i = x.length + 1 := by omega
  have hc0 : c = 0 := by
   rw [hi', e] at hv
   have hp := Sv.pw_pos (B := 1000000000) (by decide) x.length
   rcases (show c = 0 ∨ c = 1 by omega) with h | h
   ·exact h
   ·subst h; omega
  subst hc0
  rw [Int.mul_zero, Int.add_zero] at hv
  congr 1
  exact cut_mag hd (by omega)
 | succ n ih =>
  intro i out c hi ho hd hz hc hv
  refine Ev.succ ?_
  have dx := Sv.g_digs (B := 1000000000) (by decide) hx i
  have dy := Sv.g_digs (B := 1000000000) (by decide) hy i
  have step : ∀ z : Int, z = c + x.getD i 0 + y.getD i 0 → Ev (fun k => bIplus0.l0 k x y (out.set i (z % 1000000000)) (z / 1000000000) (out.length : Int) ((i + 1 : Nat) : Int)) (mag (Sv.vl 1000000000 x + Sv.vl 1000000000 y).toNat) := by
   intro z hzz
   have := ih (i + 1) (out.set i (z % 1000000000)) (z / 1000000000) (by omega) (by simpa using ho) (Sv.d_set hd _ (by omega) (by omega)) (fun p hp => by rw [Sv.g_set _ _ _ _ (by omega)]; exact hz p (by omega)) (by omega) ?_
   ·rw [List.length_set] at this; exact this
   ·rw [Sv.v_set _ _ _ _ (by omega), hz _ (Nat.le_refl _), Sv.v_take, Sv.v_take, Sv.pw_s]
    exact add_inv hv hzz
  simp only [bIplus0.l0]
  rw [rd_nat, rd_nat, Int.toNat_natCast, (w64n (by omega) (by omega) : wrap64 ((i : Int) + 1) = ((i + 1 : Nat) : Int))]
  refine Ev.pos (by omega) ?_
  by_cases h1 : i < x.length
  ·refine Ev.pos (by omega) (Ev.pos (by omega) ?_)
   by_cases h2 : i < y.length
   ·refine Ev.pos (by omega) (Ev.pos (by omega) ?_)
    rw [(w64 (by omega) (by omega) : wrap64 (c + x.getD i 0) = c + x.getD i 0), (w64 (by omega) (by omega) : wrap64 (c + x.getD i 0 + y.getD i 0) = c + x.getD i 0 + y.getD i 0)]
    obtain ⟨e1, e2⟩ := dm (z := c + x.getD i 0 + y.getD i 0) (B := 1000000000) (by omega) (by omega) (by omega)
    rw [e1, e2]
    exact step _ rfl
   ·have hy0 := Sv.g_ge y i (by omega)
    refine Ev.neg (by omega) (Ev.pos (by omega) ?_)
    rw [(w64 (by omega) (by omega) : wrap64 (c + x.getD i 0) = c + x.getD i 0)]
    obtain ⟨e1, e2⟩ := dm (z := c + x.getD i 0) (B := 1000000000) (by omega) (by omega) (by omega)
    rw [e1, e2]
    exact step _ (by omega)
  ·have hx0 := Sv.g_ge x i (by omega)
   have hy0 := Sv.g_ge y i (by omega)
   refine Ev.neg (by omega) (Ev.neg (by omega) (Ev.pos (by omega) (Ev.pos (by omega) ?_)))
   obtain ⟨e1, e2⟩ := dm (z := c) (B := 1000000000) (by omega) (by omega) (by omega)
   rw [e1, e2]
   exact step _ (by omega)
theorem bi_plus0 (x y : List Int) (hx : Sv.Digs 1000000000 x) (hy : Sv.Digs 1000000000 y) (hl : y.length ≤ x.length) (hb : x.length ≤ 1000000000000) : Ev (fun k => bIplus0.f k x y) (mag (Sv.vl 1000000000 x + Sv.vl 1000000000 y).toNat) := by
 unfold bIplus0.f
 rw [(w64n (by omega) (by omega) : wrap64 ((x.length : Int) + 1) = ((x.length + 1 : Nat) : Int))]
 refine Ev.pos (by omega) (Ev.pos (by omega) (Ev.bs rfl ?_))
 rw [Int.toNat_natCast]
 refine plus_in x y hx hy hl hb _ 0 _ 0 (Nat.zero_add _) (by simp) (Sv.d_rep (by decide) _) (fun p _ => Sv.g_rep _ _) (by omega) ?_
 rw [Sv.vl_replicate]
 simp [Sv.vl]
theorem bi_plus (m n : Nat) (hm : (mag m).length ≤ 1000000000000) (hn : (mag n).length ≤ 1000000000000) : Ev (fun k => bIplus.f k (mag m) (mag n)) (mag (m + n)) := by
 unfold bIplus.f
 by_cases h : (mag m).length < (mag n).length
 ·refine Ev.pos h ((bi_plus0 _ _ (mag_digs n) (mag_digs m) (by omega) hn).eq ?_)
  rw [vl_mag, vl_mag]; congr 1; omega
 ·refine Ev.neg h ((bi_plus0 _ _ (mag_digs m) (mag_digs n) (by omega) hm).eq ?_)
  rw [vl_mag, vl_mag]; congr 1
theorem minus_in (x y : List Int) (hx : Sv.Digs 1000000000 x) (hy : Sv.Digs 1000000000 y) (hl : y.length ≤ x.length) (hb : x.length ≤ 1000000000000) (hle : Sv.vl 1000000000 y ≤ Sv.vl 1000000000 x) (n : Nat) : ∀ (i : Nat) (out : List Int) (c : Int), i + n = x.length → out.length = x.length → Sv.Digs 1000000000 out → (∀ p, i ≤ p → out.getD p 0 = 0) → c = 0 ∨ c = 1 →
  Sv.vl 1000000000 out + Sv.vl 1000000000 (y.take i) = Sv.vl 1000000000 (x.take i) + Sv.pw 1000000000 i * c →
  Ev (fun k => bIminus.l0 k x y out c (out.length : Int) i) (mag (Sv.vl 1000000000 x - Sv.vl 1000000000 y).toNat) := by
 induction n with
 | zero =>
  intro i out c hi ho hd hz hc hv
  refine Ev.succ ?_
  simp only [bIminus.l0]
  refine Ev.neg (by omega) (Ev.bind (bi_trim out (by omega)) (Ev.of ?_))
  have h1 := Sv.v_lt (B := 1000000000) (by decide) hd
  rw [List.take_of_length_le (by omega), List.take_of_length_le (by omega)] at hv
  have hi' : i = x.length := by omega
  have hc0 : c = 0 := by
   rcases hc with h | h
   ·exact h
   ·subst h; rw [hi', Int.mul_one] at hv; rw [ho] at h1; omega
  subst hc0
  rw [Int.mul_zero, Int.add_zero] at hv
  congr 1
  exact cut_mag hd (by omega)
 | succ n ih =>
  intro i out c hi ho hd hz hc hv
  refine Ev.succ ?_
  have dx := Sv.g_digs (B := 1000000000) (by decide) hx i
  have dy := Sv.g_digs (B := 1000000000) (by decide) hy i
  have step : ∀ z b : Int, b = 0 ∨ b = 1 → 0 ≤ z → z < 1000000000 → z = x.getD i 0 - c - y.getD i 0 + 1000000000 * b → Ev (fun k => bIminus.l0 k x y (out.set i z) b (out.length : Int) ((i + 1 : Nat) : Int)) (mag (Sv.vl 1000000000 x - Sv.vl 1000000000 y).toNat) := by
   intro z b hb' h0 h1 hzz
   have := ih (i + 1) (out.set i z) b (by omega) (by simpa using ho) (Sv.d_set hd _ h0 h1) (fun p hp => by rw [Sv.g_set _ _ _ _ (by omega)]; exact hz p (by omega)) hb' ?_
   ·rw [List.length_set] at this; exact this
   ·rw [Sv.v_set _ _ _ _ (by omega), hz _ (Nat.le_refl _), Sv.v_take, Sv.v_take, Sv.pw_s]
    subst hzz
    generalize Sv.pw 1000000000 i = I at *
    generalize x.getD i 0 = xx at *
    generalize y.getD i 0 = yy at *
    clear h0 h1 hb' ih
    grind
  simp only [bIminus.l0]
  rw [rd_nat, rd_nat, Int.toNat_natCast, (w64n (by omega) (by omega) : wrap64 ((i : Int) + 1) = ((i + 1 : Nat) : Int)), (w64 (by omega) (by omega) : wrap64 (x.getD i 0 - c) = x.getD i 0 - c), (w64 (by omega) (by omega) : wrap64 (x.getD i 0 - c - y.getD i 0) = x.getD i 0 - c - y.getD i 0), (w64 (by omega) (by omega) : wrap64 (x.getD i 0 - c - y.getD i 0 + 1000000000) = x.getD i 0 - c - y.getD i 0 + 1000000000), (w64 (by omega) (by omega) : wrap64 (x.getD i 0 - c + 1000000000) = x.getD i 0 - c + 1000000000)]
  refine Ev.pos (by omega) (Ev.pos (by omega) (Ev.pos (by omega) ?_))
  by_cases h2 : i < y.length
  ·refine Ev.pos (by omega) ?_
   by_cases h3 : x.getD i 0 - c - y.getD i 0 < 0
   ·exact Ev.pos h3 (Ev.pos (by omega) (step _ 1 (.inr rfl) (by omega) (by omega) (by omega)))
   ·exact Ev.neg h3 (Ev.pos (by omega) (step _ 0 (.inl rfl) (by omega) (by omega) (by omega)))
  ·have hy0 := Sv.g_ge y i (by omega)
   refine Ev.neg (by omega) ?_
   by_cases h3 : x.getD i 0 - c < 0
   ·exact Ev.pos h3 (Ev.pos (by omega) (step _ 1 (.inr rfl) (by omega) (by omega) (by omega)))
   ·exact Ev.neg h3 (Ev.pos (by omega) (step _ 0 (.inl rfl) (by omega) (by omega) (by omega)))
theorem bi_minus (m n : Nat) (hm : (mag m).length ≤ 1000000000000) (h : n ≤ m) : Ev (fun k => bIminus.f k (mag m) (mag n)) (mag (m - n)) := by
 unfold bIminus.f
 refine Ev.pos (by omega) (Ev.pos (by omega) (Ev.bs rfl ?_))
 rw [Int.toNat_natCast]
 have := minus_in (mag m) (mag n) (mag_digs m) (mag_digs n) (mag_mono h) hm (by rw [vl_mag, vl_mag]; omega) _ 0 (List.replicate (mag m).length 0) 0 (Nat.zero_add _) (by simp) (Sv.d_rep (by decide) _) (fun p _ => Sv.g_rep _ _) (.inl rfl) (by rw [Sv.vl_replicate]; simp [Sv.vl])
 refine this.eq ?_
 rw [vl_mag, vl_mag]
 congr 1
 omega
set_option linter.unusedVariables false
set_option linter.unusedSimpArgs false
theorem bi_times_in (a b : List Int) (ha : Sv.Digs 1000000000 a) (hb : Sv.Digs 1000000000 b) (hl : a.length + b.length ≤ 10000000000000) (R : List Int) (i : Nat) (hi : i < a.length)
  (next : ∀ out : List Int, out.length = a.length + b.length → Sv.Digs 1000000000 out → (∀ p, i + 1 + b.length ≤ p → out.getD p 0 = 0) → Sv.vl 1000000000 out = Sv.vl 1000000000 (a.take (i + 1)) * Sv.vl 1000000000 b → Ev (fun k => bItimes.l0 k b out a (a.length : Int) ((i + 1 : Nat) : Int)) R) (q : Nat) :
  ∀ (j : Nat) (out : List Int) (c : Int), j + q = b.length → out.length = a.length + b.length → Sv.Digs 1000000000 out → (∀ p, i + b.length ≤ p → out.getD p 0 = 0) → 0 ≤ c ∧ c < 1000000000 →
   Sv.vl 1000000000 out + Sv.pw 1000000000 i * Sv.pw 1000000000 j * c = Sv.vl 1000000000 (a.take i) * Sv.vl 1000000000 b + Sv.pw 1000000000 i * (a.getD i 0 * Sv.vl 1000000000 (b.take j)) →
   Ev (fun k => bItimes.l1 k b out i (a.getD i 0) c a (a.length : Int) i b (b.length : Int) j) R := by
 induction q with
 | zero =>
  intro j out c hj ho hd hz hc hv
  have hjb : j = b.length := by omega
  subst hjb
  rw [List.take_length] at hv
  refine Ev.succ ?_
  simp only [bItimes.l1]
  rw [(w64n (by omega) (by omega) : wrap64 ((i : Int) + (b.length : Int)) = ((i + b.length : Nat) : Int)), (w64n (by omega) (by omega) : wrap64 ((i : Int) + 1) = ((i + 1 : Nat) : Int)), Int.toNat_natCast]
  refine Ev.neg (by omega) (Ev.pos (by omega) (Ev.pos (by omega) ?_))
  refine next _ (by simp [ho]) (Sv.d_set hd _ hc.1 hc.2) (fun p hp => ?_) ?_
  ·rw [Sv.g_set _ _ _ _ (by omega)]; exact hz p (by omega)
  ·rw [Sv.v_set _ _ _ _ (by omega), hz _ (Nat.le_refl _), Sv.v_take, Sv.pw_add]
   generalize Sv.vl 1000000000 b = vb at *
   generalize a.getD i 0 = x at *
   generalize Sv.vl 1000000000 (List.take i a) = va at *
   grind
 | succ q ih =>
  intro j out c hj ho hd hz hc hv
  refine Ev.succ ?_
  have da := Sv.g_digs (by omega) ha i
  have db := Sv.g_digs (by omega) hb j
  have dz := Sv.g_digs (by omega) hd (i + j)
  obtain ⟨-, -, -, -, -, m0, m1, m2, m3⟩ := Sv.mul_step (by omega) da db dz hc
  simp only [bItimes.l1]
  rw [(w64n (by omega) (by omega) : wrap64 ((i : Int) + (j : Int)) = ((i + j : Nat) : Int)), (w64n (by omega) (by omega) : wrap64 ((j : Int) + 1) = ((j + 1 : Nat) : Int)), rd_nat, rd_nat, Int.toNat_natCast]
  refine Ev.pos (by omega) (Ev.pos (by omega) (Ev.pos (by omega) (Ev.pos (by omega) (Ev.pos (by omega) ?_))))
  have N := ih (j + 1) (out.set (i + j) ((c + (out.getD (i + j) 0 + a.getD i 0 * b.getD j 0)) % 1000000000)) ((c + (out.getD (i + j) 0 + a.getD i 0 * b.getD j 0)) / 1000000000) (by omega) (by simp [ho]) (Sv.d_set hd _ m0 m1) (fun p hp => by rw [Sv.g_set _ _ _ _ (by omega)]; exact hz p hp) ⟨m2, m3⟩ (by
   rw [Sv.v_set _ _ _ _ (by omega), Sv.v_take, Sv.pw_s 1000000000 j, Sv.pw_add]
   have := Sv.mul_inv (B := 1000000000) (z := out.getD (i + j) 0) (y := b.getD j 0) hv
   rw [← this, Int.mul_left_comm 1000000000 (Sv.pw 1000000000 i)])
  obtain ⟨v1, v2, v3, e1, e2, v4⟩ := wmul (B := 1000000000) (by decide) (by decide) da db dz hc
  rw [v1, v2, v3, e1, e2, v4]
  exact N
theorem bi_times_ev (a b : List Int) (ha : Sv.Digs 1000000000 a) (hb : Sv.Digs 1000000000 b) (hl : a.length + b.length ≤ 10000000000000) (n : Nat) : ∀ (i : Nat) (out : List Int), i + n = a.length → out.length = a.length + b.length → Sv.Digs 1000000000 out → (∀ p, i + b.length ≤ p → out.getD p 0 = 0) → Sv.vl 1000000000 out = Sv.vl 1000000000 (a.take i) * Sv.vl 1000000000 b →
  Ev (fun k => bItimes.l0 k b out a (a.length : Int) i) (mag (Sv.vl 1000000000 a * Sv.vl 1000000000 b).toNat) := by
 induction n with
 | zero =>
  intro i out hi ho hd hz hv
  refine Ev.succ ?_
  simp only [bItimes.l0]
  refine Ev.neg (by omega) (Ev.bind (bi_trim out (by omega)) (Ev.of ?_))
  congr 1
  rw [List.take_of_length_le (by omega)] at hv
  have h0 := Int.mul_nonneg (Sv.vl_nonneg (B := 1000000000) (by decide) ha) (Sv.vl_nonneg (B := 1000000000) (by decide) hb)
  refine cut_mag hd ?_
  rw [hv, Int.toNat_of_nonneg h0]
 | succ n ih =>
  intro i out hi ho hd hz hv
  refine Ev.succ ?_
  simp only [bItimes.l0]
  rw [rd_nat]
  refine Ev.pos (by omega) (Ev.pos (by omega) (Ev.pos (by omega) ?_))
  refine bi_times_in a b ha hb hl _ i (by omega) (fun out h1 h2 h3 h4 => ih (i + 1) out (by omega) h1 h2 h3 h4) b.length 0 out 0 (by omega) ho hd hz (by omega) ?_
  simp [hv, Sv.vl, Sv.pw_zero]
theorem bi_times (m n : Nat) (hl : (mag m).length + (mag n).length ≤ 10000000000000) : Ev (fun k => bItimes.f k (mag m) (mag n)) (mag (m * n)) := by
 unfold bItimes.f
 rw [(w64n (by omega) (by omega) : wrap64 (((mag m).length : Int) + ((mag n).length : Int)) = (((mag m).length + (mag n).length : Nat) : Int)), Int.toNat_natCast]
 refine Ev.pos (by omega) (Ev.pos (by omega) ?_)
 refine (bi_times_ev _ _ (mag_digs m) (mag_digs n) hl (mag m).length 0 _ (by omega) (by simp) (Sv.d_rep (by omega) _) (fun p hp => Sv.g_rep _ _) ?_).eq ?_
 ·rw [Sv.vl_replicate]; simp [Sv.vl]
 ·rw [vl_mag, vl_mag, ← Int.natCast_mul, Int.toNat_natCast]
theorem ordAt_sign (x y : List Int) (hx : Sv.Digs 1000000000 x) (hy : Sv.Digs 1000000000 y) (n : Nat) : (ordAt x y n < 0 ↔ Sv.vl 1000000000 (x.take n) < Sv.vl 1000000000 (y.take n)) ∧ (ordAt x y n = 0 ↔ Sv.vl 1000000000 (x.take n) = Sv.vl 1000000000 (y.take n)) := by
 induction n with
 | zero => simp [ordAt, Sv.vl]
 | succ n ih =>
  have dx := Sv.g_digs (by omega) hx n
  have dy := Sv.g_digs (by omega) hy n
  rw [Sv.v_take, Sv.v_take]
  unfold ordAt
  rw [rd_nat, rd_nat]
  have lx : Sv.vl 1000000000 (x.take n) < Sv.pw 1000000000 n := by
   have h1 := Sv.v_lt (B := 1000000000) (by decide) (Sv.d_take hx n)
   have h2 := Sv.pw_mono (B := 1000000000) (by decide) (show (x.take n).length ≤ n by simp; omega)
   omega
  have ly : Sv.vl 1000000000 (y.take n) < Sv.pw 1000000000 n := by
   have h1 := Sv.v_lt (B := 1000000000) (by decide) (Sv.d_take hy n)
   have h2 := Sv.pw_mono (B := 1000000000) (by decide) (show (y.take n).length ≤ n by simp; omega)
   omega
  have x0 := Sv.vl_nonneg (B := 1000000000) (by decide) (Sv.d_take hx n)
  have y0 := Sv.vl_nonneg (B := 1000000000) (by decide) (Sv.d_take hy n)
  generalize Sv.vl 1000000000 (x.take n) = X at *
  generalize Sv.vl 1000000000 (y.take n) = Y at *
  generalize x.getD n 0 = a at *
  generalize y.getD n 0 = b at *
  generalize Sv.pw 1000000000 n = P at *
  by_cases h : a = b
  ·subst h
   rw [if_pos rfl]
   exact ⟨by rw [ih.1]; omega, by rw [ih.2]; omega⟩
  ·rw [if_neg h]
   by_cases hl : a < b
   ·have := Int.mul_le_mul_of_nonneg_left (show a + 1 ≤ b by omega) (show 0 ≤ P by omega)
    rw [Int.mul_add, Int.mul_one] at this
    exact ⟨⟨fun _ => by omega, fun _ => by omega⟩, ⟨fun _ => by omega, fun _ => by omega⟩⟩
   ·have := Int.mul_le_mul_of_nonneg_left (show b + 1 ≤ a by omega) (show 0 ≤ P by omega)
    rw [Int.mul_add, Int.mul_one] at this
    exact ⟨⟨fun _ => by omega, fun _ => by omega⟩, ⟨fun _ => by omega, fun _ => by omega⟩⟩
theorem mag_lt {m n : Nat} (h : (mag m).length < (mag n).length) : m < n := by
 rcases Nat.lt_or_ge m n with h1 | h1
 ·exact h1
 ·have := mag_mono h1; omega
theorem bi_order (m n : Nat) (hm : (mag m).length ≤ 1000000000000) (hn : (mag n).length ≤ 1000000000000) : ∃ t, bIorder.f (mag m) (mag n) = some t ∧ (t < 0 ↔ m < n) := by
 unfold bIorder.f
 refine ⟨_, if_pos ⟨mag_digs m, mag_digs n, by omega, by omega⟩, ?_⟩
 by_cases h : (mag m).length = (mag n).length
 ·rw [if_pos h, (ordAt_sign _ _ (mag_digs m) (mag_digs n) _).1, List.take_length, h, List.take_length, vl_mag, vl_mag]
  omega
 ·rw [if_neg h]
  constructor
  ·intro h2; exact mag_lt (by omega)
  ·intro h2; have := mag_mono (show m ≤ n by omega); omega
set_option linter.unusedVariables false
set_option linter.unusedSimpArgs false
theorem pw9 : Sv.pw 10 9 = 1000000000 := by rw [Sv.pw_eq]; rfl
theorem pw9k (k : Nat) : Sv.pw 10 (9 * k) = Sv.pw 1000000000 k := by
 induction k with
 | zero => rw [Nat.mul_zero, Sv.pw_zero, Sv.pw_zero]
 | succ k ih => rw [show 9 * (k + 1) = 9 + 9 * k by omega, Sv.pw_add, ih, pw9, Sv.pw_s]
theorem gk_len (ds : List Int) (k : Nat) : (gk ds k).length = k := by
 induction k with
 | zero => rfl
 | succ k ih => rw [gk, List.length_append, ih]; rfl
theorem gk_digs (ds : List Int) (h : Sv.Digs 10 ds) (k : Nat) : Sv.Digs 1000000000 (gk ds k) := by
 induction k with
 | zero => exact Sv.Digs.nil _
 | succ k ih =>
  rw [gk]
  have hd := Sv.d_take (Sv.d_drop h (9 * k)) 9
  have h0 := Sv.vl_nonneg (B := 10) (by decide) hd
  have h1 := Sv.v_lt (B := 10) (by decide) hd
  have h2 := Sv.pw_mono (B := 10) (by decide) (show ((ds.drop (9 * k)).take 9).length ≤ 9 by simp; omega)
  rw [pw9] at h2
  exact ih.append (Sv.Digs.cons h0 (by omega) (Sv.Digs.nil _))
theorem gk_vl (ds : List Int) (k : Nat) (hk : 9 * k ≤ ds.length + 8) : Sv.vl 1000000000 (gk ds k) = Sv.vl 10 (ds.take (9 * k)) := by
 induction k with
 | zero => simp [gk, Sv.vl]
 | succ k ih =>
  rw [gk, Sv.v_app, ih (by omega), gk_len, Sv.vl_cons, Sv.vl_nil, Int.mul_zero, Int.add_zero]
  have : ds.take (9 * (k + 1)) = ds.take (9 * k) ++ (ds.drop (9 * k)).take 9 := by
   rw [show 9 * (k + 1) = 9 * k + 9 by omega, List.take_add]
  rw [this, Sv.v_app, List.length_take, Nat.min_eq_left (by omega), pw9k]
theorem AllD_txtN (n : Nat) : AllD (Sv.txtN n) := fun c hc => txtN_mem hc
theorem dl_digs {l : List UInt8} (h : AllD l) : Sv.Digs 10 (l.reverse.map Sv.chd) := by
 intro d hd
 obtain ⟨c, hc, rfl⟩ := List.mem_map.1 hd
 have := h c (List.mem_reverse.1 hc)
 unfold Sv.chd
 omega
theorem collect_txtN (n : Nat) (h : Sv.nd n ≤ 4294967296) : ∃ l, slices_Collect_int.f ⟨(Sv.txtN n).toArray⟩ = some l ∧ Sv.Digs 1000000000 l ∧ Sv.vl 1000000000 l = n ∧ l.length ≤ 4294967296 := by
 unfold slices_Collect_int.f
 have hl : (Sv.txtN n).length = Sv.nd n := Sv.txtN_length n
 rw [ba_mk, mk_size, hl]
 refine ⟨_, if_pos ⟨AllD_txtN n, h⟩, ?_, ?_, ?_⟩
 ·refine gk_digs _ ?_ _
  unfold dl
  rw [ba_mk]
  exact dl_digs (AllD_txtN n)
 ·have e : dl ⟨(Sv.txtN n).toArray⟩ = (Sv.txtN n).reverse.map Sv.chd := by unfold dl; rw [ba_mk]
  have el : (dl ⟨(Sv.txtN n).toArray⟩).length = Sv.nd n := by rw [e]; simp [hl]
  rw [gk_vl _ _ (by omega), List.take_of_length_le (by omega), e]
  exact Sv.valN_txtN n
 ·rw [gk_len]; omega
theorem bi_read (n : Int) (h : Sv.nd n ≤ 4294967296) : Ev (fun k => bIread.f k (Sv.txt n)) (decide (n < 0), mag n.natAbs) := by
 unfold bIread.f
 refine Ev.bs (cut45 _) ?_
 have key : ∀ b : Bool, Ev (fun k => (slices_Collect_int.f ⟨(Sv.txtN n.natAbs).toArray⟩).bind fun t118 => ((bItrim.f k t118).bind fun t121 => (some (b, t121)))) (b, mag n.natAbs) := by
  intro b
  obtain ⟨l, h1, h2, h3, h4⟩ := collect_txtN n.natAbs (by rw [Sv.nd_natAbs]; exact h)
  refine Ev.bs h1 (Ev.bind (bi_trim l (by omega)) (Ev.of ?_))
  rw [cut_mag h2 h3]
 by_cases hn : n < 0
 ·rw [if_pos ((head45 n).2 hn), decide_eq_true hn]
  have e : (Sv.txt n).data.toList.drop 1 = Sv.txtN n.natAbs := by
   show (Sv.txtL n).drop 1 = _
   unfold Sv.txtL
   rw [if_pos hn]; rfl
  rw [e]
  exact key true
 ·rw [if_neg (fun e => hn ((head45 n).1 e)), decide_eq_false hn]
  have e : Sv.txt n = ⟨(Sv.txtN n.natAbs).toArray⟩ := by
   unfold Sv.txt Sv.txtL
   rw [if_neg hn]
  rw [e]
  exact key false
theorem ungrp_two (x : Int) {l : List Int} (h : l ≠ []) : Sv.ungrp (x :: l) = Sv.pad9 x ++ Sv.ungrp l := by
 cases l with
 | nil => exact absurd rfl h
 | cons y l => rw [Sv.ungrp]; simp
theorem txtL_dg {v : Int} (h : 0 < v) : Sv.txtL v = (Sv.dg 10 v.toNat).reverse.map Sv.dch := by
 unfold Sv.txtL Sv.txtN
 rw [if_neg (by omega), if_neg (by omega), show v.natAbs = v.toNat by omega]
theorem rep_list (k : Nat) : Lib.repeatL [48] k = List.replicate k 48 := by
 induction k with
 | zero => rfl
 | succ k ih => rw [Lib.repeatL, ih]; rfl
theorem dch0 : Sv.dch 0 = 48 := rfl
theorem pad_text {v : Int} (h0 : 0 ≤ v) (h1 : v < 1000000000) : Lib.repeatL [48] (9 - (Sv.txt v).size) ++ Sv.txtL v = (Sv.pad9 v).reverse.map Sv.dch := by
 unfold Sv.pad9
 rw [List.reverse_append, List.map_append, List.reverse_replicate, List.map_replicate, dch0, rep_list]
 have hs : (Sv.txt v).size = Sv.nd v := by rw [Sv.txt_size, if_neg (by omega)]; rfl
 rw [hs]
 by_cases hz : v = 0
 ·subst hz
  rw [show ((0 : Int).toNat) = 0 from rfl, Sv.dg_zero]
  rfl
 ·rw [← txtL_dg (show 0 < v by omega)]
  congr 2
  unfold Sv.nd
  rw [if_neg hz, show v.natAbs = v.toNat by omega]
theorem text_flat (zs : List Int) (hd : Sv.Digs 1000000000 zs) (hz : Sv.NoZ zs) (k : Nat) : k < zs.length → (bk zs (k + 1)).flatMap (fun x => tstep zs.length x.1.1 x.1.2) = (Sv.ungrp (zs.drop (zs.length - 1 - k))).reverse.map Sv.dch := by
 induction k with
 | zero =>
  intro hk
  have hne : zs ≠ [] := List.length_pos_iff.1 hk
  have hlt : zs.length - 1 < zs.length := by omega
  have ed : zs.drop (zs.length - 1 - 0) = [zs[zs.length - 1]] := by
   rw [Nat.sub_zero, List.drop_eq_getElem_cons hlt, List.drop_of_length_le (by omega)]
  have htop : 0 < zs[zs.length - 1] := by
   have h1 := hd _ (List.getElem_mem hlt)
   have h2 : zs[zs.length - 1] ≠ 0 := by
    intro e
    apply hz
    rw [List.getLast?_eq_getElem?, List.getElem?_eq_getElem hlt, e]
   omega
  rw [ed]
  unfold bk
  rw [dif_pos hk]
  unfold bk bkx
  simp only [List.nil_append, List.flatMap_cons, List.flatMap_nil, List.append_nil]
  rw [show ((zs.length : Int) - 1 - ((0 : Nat) : Int)) = ((zs.length - 1 : Nat) : Int) by omega, rd_get _ _ hlt]
  unfold tstep
  rw [if_neg (by omega), txtL_dg htop]
  rfl
 | succ k ih =>
  intro hk
  have hlt : zs.length - 1 - (k + 1) < zs.length := by omega
  have ed : zs.drop (zs.length - 1 - (k + 1)) = zs[zs.length - 1 - (k + 1)] :: zs.drop (zs.length - 1 - k) := by
   rw [List.drop_eq_getElem_cons hlt]
   congr 2
   omega
  have hv := hd _ (List.getElem_mem hlt)
  rw [ed, ungrp_two _ (by intro e; have := congrArg List.length e; simp at this; omega), List.reverse_append, List.map_append, ← ih (by omega), ← pad_text hv.1 hv.2]
  rw [bk, dif_pos hk, List.flatMap_append]
  congr 1
  unfold bkx
  simp only [List.flatMap_cons, List.flatMap_nil, List.append_nil]
  rw [show ((zs.length : Int) - 1 - ((k + 1 : Nat) : Int)) = ((zs.length - 1 - (k + 1) : Nat) : Int) by omega, rd_get _ _ hlt]
  unfold tstep
  rw [if_pos (by omega)]
theorem bi_text (neg : Bool) (N : Nat) (h : (mag N).length ≤ 1000000000000) : bInumber_text.f neg (mag N) = some (Sv.txt (if neg then -(N : Int) else N)) := by
 unfold bInumber_text.f
 rw [if_pos ⟨mag_digs N, by omega⟩]
 congr 1
 by_cases h0 : N = 0
 ·subst h0
  rw [mag_zero, if_pos rfl, ← txt0]
  congr 1
  cases neg <;> rfl
 ·have hne := mag_ne (show 0 < N by omega)
  have hl : 0 < (mag N).length := List.length_pos_iff.2 hne
  rw [if_neg hne]
  unfold Sv.txt
  congr 2
  unfold tacc
  have := text_flat (mag N) (mag_digs N) (mag_noz N) ((mag N).length - 1) (by omega)
  rw [show (mag N).length - 1 + 1 = (mag N).length by omega, show (mag N).length - 1 - ((mag N).length - 1) = 0 by omega, List.drop_zero, Sv.ungrp_eq (mag_digs N) (mag_noz N)] at this
  rw [this]
  have hv : (Sv.vl Sv.LB (mag N)).toNat = N := by
   have := vl_mag N
   rw [show Sv.vl Sv.LB (mag N) = N from this]; exact Int.toNat_natCast N
  rw [hv]
  unfold Sv.txtL Sv.txtN
  cases neg
  ·simp only [Bool.false_eq_true, if_false, List.nil_append]
   rw [if_neg (by omega), if_neg (by omega), Int.natAbs_natCast]
  ·simp only [if_true]
   rw [if_pos (by omega), if_neg (by omega), Int.natAbs_neg, Int.natAbs_natCast]
   rfl
theorem ungrp_len {l : List Int} (hd : Sv.Digs 1000000000 l) (n : Nat) : l.length = n + 1 → (Sv.ungrp l).length = 9 * n + (Sv.dg 10 (l.getD n 0).toNat).length := by
 induction n generalizing l with
 | zero =>
  intro h
  obtain ⟨x, rfl⟩ := List.length_eq_one_iff.1 h
  rw [Sv.ungrp]; simp
 | succ n ih =>
  intro h
  cases l with
  | nil => simp at h
  | cons x l =>
   have hl : l.length = n + 1 := by simpa using h
   rw [ungrp_two _ (by intro e; rw [e] at hl; simp at hl), List.length_append, Sv.pad9_length hd.head.2, ih hd.tail hl, List.getD_cons_succ]
   omega
theorem bi_size (neg : Bool) (N : Nat) (h : (mag N).length ≤ 1000000000000) : bInumber_size.f neg (mag N) = some (if N = 0 then 0 else (Sv.nd N : Int)) := by
 unfold bInumber_size.f
 by_cases h0 : N = 0
 ·subst h0; rw [mag_zero]; rfl
 ·have hne := mag_ne (show 0 < N by omega)
  have hl : 0 < (mag N).length := List.length_pos_iff.2 hne
  have hlt : (mag N).length - 1 < (mag N).length := by omega
  obtain ⟨n, hn⟩ : ∃ n, (mag N).length = n + 1 := ⟨(mag N).length - 1, by omega⟩
  have hd := Sv.g_digs (B := 1000000000) (by decide) (mag_digs N) n
  have htop : 0 < (mag N).getD n 0 := by
   have h2 : (mag N).getD n 0 ≠ 0 := by
    intro e
    apply mag_noz N
    rw [List.getLast?_eq_getElem?, hn, Nat.add_sub_cancel, List.getElem?_eq_getElem (by omega)]
    simp only [List.getD, List.getElem?_eq_getElem (show n < (mag N).length by omega), Option.getD_some] at e
    rw [e]
   omega
  have hu := ungrp_len (mag_digs N) n hn
  rw [Sv.ungrp_eq (mag_digs N) (mag_noz N), show (Sv.vl Sv.LB (mag N)).toNat = N from by rw [show Sv.vl Sv.LB (mag N) = N from vl_mag N]; exact Int.toNat_natCast N] at hu
  have hnd : Sv.nd N = (Sv.dg 10 N).length := by unfold Sv.nd; rw [if_neg (by omega), Int.natAbs_natCast]
  have hsz : (Sv.txt ((mag N).getD n 0)).size = (Sv.dg 10 ((mag N).getD n 0).toNat).length := by
   rw [Sv.txt_size, if_neg (by omega)]
   unfold Sv.nd
   rw [if_neg (by omega), show ((mag N).getD n 0).natAbs = ((mag N).getD n 0).toNat by omega]; rfl
  have hs9 : (Sv.dg 10 ((mag N).getD n 0).toNat).length ≤ 9 := Sv.dg_length_le (by omega) (by omega)
  rw [if_neg h0, hn, if_neg (by omega)]
  rw [(w64n (by omega) (by omega) : wrap64 (((n + 1 : Nat) : Int) - 1) = (n : Int)), if_pos (by omega), if_pos (by omega), rd_nat]
  unfold strconv_Itoa.f
  rw [if_pos (by omega), Option.bind_some, hsz]
  rw [(w64 (by omega) (by omega) : wrap64 ((n : Int) * 9) = (n : Int) * 9), (w64 (by omega) (by omega) : wrap64 ((n : Int) * 9 + ((Sv.dg 10 ((mag N).getD n 0).toNat).length : Int)) = (n : Int) * 9 + ((Sv.dg 10 ((mag N).getD n 0).toNat).length : Int))]
  congr 1
  omega
def lim (n : Int) : ByteArray × Int := if Sv.nd n ≤ 4096 then (Sv.txt n, 0) else (⟨#[]⟩, 10)
theorem bi_written (neg : Bool) (N : Nat) (h : (mag N).length ≤ 1000000000000) : bIwritten.f neg (mag N) = some (lim (if neg then -(N : Int) else N)) := by
 unfold bIwritten.f
 rw [bi_size neg N h, Option.bind_some]
 have hnd : Sv.nd (if neg = true then -(N : Int) else N) = Sv.nd N := by cases neg <;> simp [Sv.nd_neg]
 unfold lim
 rw [hnd]
 by_cases h0 : N = 0
 ·subst h0
  have : Sv.nd ((0 : Nat) : Int) ≤ 4096 := by unfold Sv.nd; simp
  rw [if_pos rfl, if_pos this, if_neg (by omega), bi_text neg 0 h, Option.bind_some]
 ·rw [if_neg h0]
  by_cases h1 : Sv.nd (N : Int) ≤ 4096
  ·rw [if_pos h1, if_neg (by omega), bi_text neg N h, Option.bind_some]
  ·rw [if_neg h1, if_pos (by omega)]
end Go.Proofs.YtihbebbabjklkaaGreatDoor.PA
