import Derived.Lib.Hide
import Derived.Test.YtihbebbabjklkaaGreatDoorAW
import Derived.Lib.Strings
import Derived.Lib.Repeat
import Derived.Lib.Bytealg
import Derived.Lib.SlTrimSet
import Derived.Laws.Strings
namespace Go.Proofs.YtihbebbabjklkaaGreatDoor.Sv
def vl (B : Int) : List Int → Int
 | [] => 0
 | d :: l => d + B * vl B l
def Digs (B : Int) (l : List Int) : Prop := ∀ d, d ∈ l → 0 ≤ d ∧ d < B
def NoZ (l : List Int) : Prop := l.getLast? ≠ some 0
theorem vl_nil (B : Int) : vl B [] = 0 := rfl
theorem vl_cons (B d : Int) (l : List Int) : vl B (d :: l) = d + B * vl B l := rfl
theorem vl_append (B : Int) (l m : List Int) : vl B (l ++ m) = vl B l + B ^ l.length * vl B m := by
 induction l with
 | nil => simp [vl]
 | cons d l ih => simp only [List.cons_append, vl, ih, List.length_cons, Int.pow_succ]; grind
theorem vl_replicate (B : Int) (n : Nat) : vl B (List.replicate n 0) = 0 := by
 induction n with
 | zero => rfl
 | succ n ih => simp [List.replicate_succ, vl, ih]
theorem Digs.nil (B : Int) : Digs B [] := by simp [Digs]
theorem Digs.cons {B d : Int} {l : List Int} (h0 : 0 ≤ d) (h1 : d < B) (h : Digs B l) : Digs B (d :: l) := by
 intro x hx
 rcases List.mem_cons.1 hx with rfl | hx
 ·exact ⟨h0, h1⟩
 ·exact h x hx
theorem Digs.head {B d : Int} {l : List Int} (h : Digs B (d :: l)) : 0 ≤ d ∧ d < B := h d (by simp)
theorem Digs.tail {B d : Int} {l : List Int} (h : Digs B (d :: l)) : Digs B l := fun x hx => h x (by simp [hx])
theorem Digs.append {B : Int} {l m : List Int} (h : Digs B l) (k : Digs B m) : Digs B (l ++ m) := by
 intro x hx
 rcases List.mem_append.1 hx with hx | hx
 ·exact h x hx
 ·exact k x hx
theorem Digs.left {B : Int} {l m : List Int} (h : Digs B (l ++ m)) : Digs B l := fun x hx => h x (by simp [hx])
theorem Digs.right {B : Int} {l m : List Int} (h : Digs B (l ++ m)) : Digs B m := fun x hx => h x (by simp [hx])
theorem vl_nonneg {B : Int} (hB : 0 < B) {l : List Int} (h : Digs B l) : 0 ≤ vl B l := by
 induction l with
 | nil => simp [vl]
 | cons d l ih =>
  have h1 := h.head
  have h2 := Int.mul_nonneg (Int.le_of_lt hB) (ih h.tail)
  simp only [vl]; omega
theorem vl_lt {B : Int} (hB : 0 < B) {l : List Int} (h : Digs B l) : vl B l < B ^ l.length := by
 induction l with
 | nil => simp [vl]
 | cons d l ih =>
  have h1 := h.head
  have h2 := ih h.tail
  have h3 : B * (vl B l + 1) ≤ B * B ^ l.length := Int.mul_le_mul_of_nonneg_left (by omega) (by omega)
  simp only [vl, List.length_cons, Int.pow_succ]
  grind
theorem NoZ.tail {d : Int} {l : List Int} (h : NoZ (d :: l)) : NoZ l := by
 cases l with
 | nil => simp [NoZ]
 | cons e l => simpa [NoZ, List.getLast?_cons_cons] using h
theorem vl_pos {B : Int} (hB : 0 < B) {l : List Int} (h : Digs B l) (hz : NoZ l) (hl : l ≠ []) : B ^ (l.length - 1) ≤ vl B l := by
 induction l with
 | nil => exact absurd rfl hl
 | cons d l ih =>
  have h1 := h.head
  cases l with
  | nil =>
   have : d ≠ 0 := by simpa [NoZ] using hz
   simp [vl]; omega
  | cons e l =>
   have h2 := ih h.tail hz.tail (by simp)
   have h3 : B * B ^ ((e :: l).length - 1) ≤ B * vl B (e :: l) := Int.mul_le_mul_of_nonneg_left h2 (by omega)
   have h4 : B ^ ((d :: e :: l).length - 1) = B * B ^ ((e :: l).length - 1) := by
    simp [Int.pow_succ, Int.mul_comm]
   rw [h4, vl_cons]; omega
theorem vl_eq_zero {B : Int} (hB : 0 < B) {l : List Int} (h : Digs B l) (hz : NoZ l) : vl B l = 0 ↔ l = [] := by
 constructor
 ·intro h0
  by_cases hl : l = []
  ·exact hl
  ·have h1 := vl_pos hB h hz hl
   have h2 : 0 < B ^ (l.length - 1) := Int.pow_pos hB
   omega
 ·rintro rfl; rfl
theorem vl_inj {B : Int} (hB : 1 < B) : ∀ {l m : List Int}, Digs B l → NoZ l → Digs B m → NoZ m → vl B l = vl B m → l = m := by
 intro l
 induction l with
 | nil =>
  intro m _ _ hm hz h
  exact ((vl_eq_zero (by omega) hm hz).1 h.symm).symm
 | cons d l ih =>
  intro m hl hlz hm hmz h
  cases m with
  | nil => exact (vl_eq_zero (by omega) hl hlz).1 h
  | cons e m =>
   have h1 := hl.head
   have h2 := hm.head
   simp only [vl] at h
   have hd : d = e := by
    have a : (d + B * vl B l) % B = d := by rw [Int.add_mul_emod_self_left]; exact Int.emod_eq_of_lt h1.1 h1.2
    have b : (e + B * vl B m) % B = e := by rw [Int.add_mul_emod_self_left]; exact Int.emod_eq_of_lt h2.1 h2.2
    rw [h] at a; omega
   subst hd
   have hv : B * vl B l = B * vl B m := by omega
   have hv' : vl B l = vl B m := Int.eq_of_mul_eq_mul_left (by omega) hv
   rw [ih hl.tail hlz.tail hm.tail hmz.tail hv']
def dg (b : Nat) (n : Nat) : List Int :=
 if _h : 1 < b ∧ 0 < n then ((n % b : Nat) : Int) :: dg b (n / b) else []
termination_by n
decreasing_by exact Nat.div_lt_self _h.2 _h.1
theorem dg_zero (b : Nat) : dg b 0 = [] := by unfold dg; simp
theorem dg_pos {b n : Nat} (hb : 1 < b) (hn : 0 < n) : dg b n = ((n % b : Nat) : Int) :: dg b (n / b) := by
 rw [dg]; simp [hb, hn]
theorem dg_digs {b : Nat} (hb : 1 < b) (n : Nat) : Digs b (dg b n) := by
 induction n using Nat.strongRecOn with
 | ind n ih =>
  rcases Nat.eq_zero_or_pos n with rfl | hn
  ·rw [dg_zero]; exact Digs.nil _
  ·rw [dg_pos hb hn]
   have := Nat.mod_lt n (show 0 < b by omega)
   exact Digs.cons (by omega) (by omega) (ih _ (Nat.div_lt_self hn hb))
theorem dg_ne_nil {b : Nat} (hb : 1 < b) {n : Nat} (hn : 0 < n) : dg b n ≠ [] := by rw [dg_pos hb hn]; simp
theorem dg_noz {b : Nat} (hb : 1 < b) (n : Nat) : NoZ (dg b n) := by
 induction n using Nat.strongRecOn with
 | ind n ih =>
  rcases Nat.eq_zero_or_pos n with rfl | hn
  ·rw [dg_zero]; simp [NoZ]
  ·rw [dg_pos hb hn]
   rcases Nat.eq_zero_or_pos (n / b) with h0 | h0
   ·rw [h0, dg_zero]
    have : n % b = n := Nat.mod_eq_of_lt ((Nat.div_eq_zero_iff_lt (by omega)).1 h0)
    simp [NoZ, this]; omega
   ·have h1 := ih _ (Nat.div_lt_self hn hb)
    have h2 := dg_ne_nil hb h0
    unfold NoZ at *
    rw [List.getLast?_cons]
    cases hd : (dg b (n / b)).getLast? with
    | none => simp at hd; exact absurd hd h2
    | some x => rw [hd] at h1; simpa using h1
theorem vl_dg {b : Nat} (hb : 1 < b) (n : Nat) : vl b (dg b n) = n := by
 induction n using Nat.strongRecOn with
 | ind n ih =>
  rcases Nat.eq_zero_or_pos n with rfl | hn
  ·rw [dg_zero]; rfl
  ·rw [dg_pos hb hn, vl_cons, ih _ (Nat.div_lt_self hn hb)]
   have := Nat.mod_add_div n b
   exact_mod_cast this
theorem dg_vl {b : Nat} (hb : 1 < b) {l : List Int} (h : Digs b l) (hz : NoZ l) : dg b (vl b l).toNat = l :=
 vl_inj (B := b) (by omega) (dg_digs hb _) (dg_noz hb _) h hz (by rw [vl_dg hb, Int.toNat_of_nonneg (vl_nonneg (by omega) h)])
theorem dg_length_le {b : Nat} (hb : 1 < b) {n k : Nat} (h : n < b ^ k) : (dg b n).length ≤ k := by
 rcases Nat.lt_or_ge k (dg b n).length with hk | hk
 ·have h1 := vl_pos (B := b) (by omega) (dg_digs hb n) (dg_noz hb n) (by intro e; rw [e] at hk; simp at hk)
  rw [vl_dg hb] at h1
  have h2 : b ^ k ≤ b ^ ((dg b n).length - 1) := Nat.pow_le_pow_right (by omega) (by omega)
  have h3 : ((b ^ ((dg b n).length - 1) : Nat) : Int) ≤ n := by push_cast; exact h1
  omega
 ·exact hk
theorem lt_of_dg_length {b : Nat} (hb : 1 < b) (n : Nat) : n < b ^ (dg b n).length := by
 have h1 := vl_lt (B := b) (by omega) (dg_digs hb n)
 rw [vl_dg hb] at h1
 exact_mod_cast h1
theorem dg_length_mono {b : Nat} (hb : 1 < b) {m n : Nat} (h : m ≤ n) : (dg b m).length ≤ (dg b n).length :=
 dg_length_le hb (Nat.lt_of_le_of_lt h (lt_of_dg_length hb n))
def dch (d : Int) : UInt8 := UInt8.ofNat (48 + d.toNat)
def chd (c : UInt8) : Int := (c.toNat : Int) - 48
theorem chd_dch {d : Int} (h0 : 0 ≤ d) (h1 : d < 10) : chd (dch d) = d := by
 unfold chd dch
 have h2 : (UInt8.ofNat (48 + d.toNat)).toNat = 48 + d.toNat := by
  rw [UInt8.toNat_ofNat_of_lt']; show _ < 256; omega
 rw [h2]; omega
theorem dch_toNat {d : Int} (h0 : 0 ≤ d) (h1 : d < 10) : ((dch d).toNat : Int) = 48 + d := by
 have := chd_dch h0 h1
 unfold chd at this; omega
theorem dch_chd {c : UInt8} (h : 48 ≤ c.toNat) : dch (chd c) = c := by
 unfold chd dch
 have : 48 + ((c.toNat : Int) - 48).toNat = c.toNat := by omega
 rw [this]; exact UInt8.ofNat_toNat
def txtN (n : Nat) : List UInt8 := if n = 0 then [48] else (dg 10 n).reverse.map dch
def txtL (n : Int) : List UInt8 := if n < 0 then 45 :: txtN n.natAbs else txtN n.natAbs
def txt (n : Int) : ByteArray := ⟨(txtL n).toArray⟩
structure Pos (l : List UInt8) : Prop where
 ne : l ≠ []
 head : l.head? ≠ some 48
 digs : ∀ c ∈ l, 48 ≤ c.toNat ∧ c.toNat ≤ 57
def valN (l : List UInt8) : Int := vl 10 (l.reverse.map chd)
def valL (l : List UInt8) : Int := if l.head? = some 45 then -valN l.tail else valN l
def val (s : ByteArray) : Int := valL s.data.toList
def Cano (s : ByteArray) : Prop := ∃ n, s = txt n
theorem Pos.digs' {l : List UInt8} (h : Pos l) : Digs 10 (l.reverse.map chd) := by
 intro d hd
 simp only [List.mem_map, List.mem_reverse] at hd
 obtain ⟨c, hc, rfl⟩ := hd
 have := h.digs c hc
 unfold chd; omega
theorem Pos.noz {l : List UInt8} (h : Pos l) : NoZ (l.reverse.map chd) := by
 cases l with
 | nil => exact absurd rfl h.ne
 | cons c l =>
  have h1 := h.head
  have h2 := h.digs c (by simp)
  simp only [NoZ, List.reverse_cons, List.map_append, List.map_cons, List.map_nil, List.getLast?_append, List.getLast?_singleton]
  simp at h1 ⊢
  intro e
  apply h1
  unfold chd at e
  exact UInt8.toNat_inj.1 (by show c.toNat = 48; omega)
theorem Pos.ne' {l : List UInt8} (h : Pos l) : l.reverse.map chd ≠ [] := by
 intro e
 have := congrArg List.length e
 simp at this
 exact h.ne this
theorem Pos.pos {l : List UInt8} (h : Pos l) : 0 < valN l := by
 have h1 := vl_nonneg (by omega) h.digs'
 have h2 : ¬ vl 10 (l.reverse.map chd) = 0 := fun e => h.ne' ((vl_eq_zero (by omega) h.digs' h.noz).1 e)
 unfold valN; omega
theorem Pos.back {l : List UInt8} (h : Pos l) : txtN (valN l).toNat = l := by
 have h1 := h.pos
 unfold txtN
 rw [if_neg (by omega)]
 have h2 : dg 10 (valN l).toNat = l.reverse.map chd := dg_vl (by omega) h.digs' h.noz
 rw [h2, ← List.map_reverse, List.reverse_reverse, List.map_map]
 conv => rhs; rw [← List.map_id l]
 apply List.map_congr_left
 intro c hc
 exact dch_chd (h.digs c hc).1
theorem pos_txtN {n : Nat} (hn : 0 < n) : Pos (txtN n) := by
 unfold txtN
 rw [if_neg (by omega)]
 refine ⟨?_, ?_, ?_⟩
 ·simp [dg_ne_nil (b := 10) (by omega) hn]
 ·have h1 := dg_noz (b := 10) (by omega) n
  rw [List.head?_map, List.head?_reverse]
  unfold NoZ at h1
  cases hd : (dg 10 n).getLast? with
  | none => simp
  | some d =>
   rw [hd] at h1
   have hm := dg_digs (b := 10) (by omega) n d (List.mem_of_getLast? hd)
   simp only [Option.map_some]
   intro e
   have e' : dch d = 48 := by simpa using e
   have := dch_toNat hm.1 hm.2
   rw [e'] at this
   have h48 : ((48 : UInt8).toNat : Int) = 48 := rfl
   apply h1
   congr 1
   omega
 ·intro c hc
  simp only [List.mem_map, List.mem_reverse] at hc
  obtain ⟨d, hd, rfl⟩ := hc
  have hm := dg_digs (b := 10) (by omega) n d hd
  have := dch_toNat hm.1 hm.2
  omega
theorem valN_txtN (n : Nat) : valN (txtN n) = n := by
 rcases Nat.eq_zero_or_pos n with rfl | hn
 ·rfl
 ·unfold valN txtN
  rw [if_neg (by omega), ← List.map_reverse, List.reverse_reverse, List.map_map]
  have : (dg 10 n).map (chd ∘ dch) = dg 10 n := by
   conv => rhs; rw [← List.map_id (dg 10 n)]
   apply List.map_congr_left
   intro d hd
   have hm := dg_digs (b := 10) (by omega) n d hd
   exact chd_dch hm.1 hm.2
  rw [this]
  exact vl_dg (b := 10) (by omega) n
theorem txtN_head (n : Nat) : (txtN n).head? ≠ some 45 := by
 rcases Nat.eq_zero_or_pos n with rfl | hn
 ·simp [txtN]
 ·have h := pos_txtN hn
  intro e
  have := h.digs 45 (List.mem_of_head? e)
  have h45 : (45 : UInt8).toNat = 45 := rfl
  omega
theorem valL_txtL (n : Int) : valL (txtL n) = n := by
 unfold txtL
 by_cases h : n < 0
 ·rw [if_pos h]; unfold valL; simp only [List.head?_cons, List.tail_cons, if_true, valN_txtN]; omega
 ·rw [if_neg h]; unfold valL; rw [if_neg (txtN_head _), valN_txtN]; omega
theorem val_txt (n : Int) : val (txt n) = n := by unfold val txt; simpa using valL_txtL n
theorem txt_inj {m n : Int} : txt m = txt n ↔ m = n := ⟨fun h => by rw [← val_txt m, h, val_txt], fun h => by rw [h]⟩
theorem cano_iff {s : ByteArray} : Cano s ↔ s.data.toList = [48] ∨ Pos s.data.toList ∨ ∃ m, s.data.toList = 45 :: m ∧ Pos m := by
 constructor
 ·rintro ⟨n, rfl⟩
  show txtL n = _ ∨ Pos (txtL n) ∨ ∃ m, txtL n = _ ∧ _
  unfold txtL
  by_cases h : n < 0
  ·rw [if_pos h]; exact .inr (.inr ⟨_, rfl, pos_txtN (by omega)⟩)
  ·rw [if_neg h]
   rcases Nat.eq_zero_or_pos n.natAbs with h0 | h0
   ·rw [h0]; exact .inl rfl
   ·exact .inr (.inl (pos_txtN h0))
 ·have fin : ∀ n : Int, txtL n = s.data.toList → Cano s := fun n h => ⟨n, by
   unfold txt; rw [h, Array.toArray_toList]⟩
  rintro (h | h | ⟨m, h, hm⟩)
  ·exact fin 0 h.symm
  ·have hp := h.pos
   refine fin (valN s.data.toList) ?_
   unfold txtL
   rw [if_neg (by omega)]
   have : (valN s.data.toList).natAbs = (valN s.data.toList).toNat := by omega
   rw [this, h.back]
  ·have hp := hm.pos
   refine fin (-valN m) ?_
   unfold txtL
   rw [if_pos (by omega)]
   have : (-valN m).natAbs = (valN m).toNat := by omega
   rw [this, hm.back, h]
def nd (n : Int) : Nat := if n = 0 then 1 else (dg 10 n.natAbs).length
theorem txtN_length (n : Nat) : (txtN n).length = nd n := by
 unfold txtN nd
 by_cases h : n = 0
 ·simp [h]
 ·rw [if_neg h, if_neg (by omega)]; simp
theorem nd_natAbs (n : Int) : nd (n.natAbs : Int) = nd n := by
 unfold nd
 by_cases h : n = 0
 ·simp [h]
 ·rw [if_neg h, if_neg (by omega)]; simp
theorem nd_neg (n : Int) : nd (-n) = nd n := by rw [← nd_natAbs (-n), ← nd_natAbs n, Int.natAbs_neg]
theorem txt_size (n : Int) : (txt n).size = nd n + if n < 0 then 1 else 0 := by
 show (txtL n).toArray.size = _
 unfold txtL
 by_cases h : n < 0
 ·simp only [if_pos h, List.size_toArray, List.length_cons, txtN_length, nd_natAbs]
 ·simp only [if_neg h, List.size_toArray, txtN_length, nd_natAbs]; omega
theorem nd_pos (n : Int) : 0 < nd n := by
 unfold nd
 by_cases h : n = 0
 ·simp [h]
 ·rw [if_neg h]
  have := dg_ne_nil (b := 10) (by omega) (n := n.natAbs) (by omega)
  exact List.length_pos_iff.2 this
theorem nd_le {n : Int} {k : Nat} (hk : 0 < k) (h : n.natAbs < 10 ^ k) : nd n ≤ k := by
 unfold nd
 by_cases h0 : n = 0
 ·simp [h0]; omega
 ·rw [if_neg h0]; exact dg_length_le (by omega) h
theorem lt_of_nd (n : Int) : n.natAbs < 10 ^ nd n := by
 unfold nd
 by_cases h0 : n = 0
 ·simp [h0]
 ·rw [if_neg h0]; exact lt_of_dg_length (by omega) _
theorem nd_le_iff {n : Int} {k : Nat} (hk : 0 < k) : nd n ≤ k ↔ n.natAbs < 10 ^ k :=
 ⟨fun h => Nat.lt_of_lt_of_le (lt_of_nd n) (Nat.pow_le_pow_right (by omega) h), nd_le hk⟩
abbrev LB : Int := 1000000000
def cut (l : List Int) : List Int :=
 if l.getLast? = some 0 then cut l.dropLast else l
termination_by l.length
decreasing_by
 rename_i h
 cases l with
 | nil => simp at h
 | cons d l => simp
theorem cut_noz (l : List Int) : NoZ (cut l) := by
 induction hn : l.length using Nat.strongRecOn generalizing l with
 | ind n ih =>
  rw [cut]
  split
  ·rename_i h
   refine ih _ ?_ _ rfl
   cases l with
   | nil => simp at h
   | cons d l => simp at hn ⊢; omega
  ·assumption
theorem cut_of_noz {l : List Int} (h : NoZ l) : cut l = l := by
 rw [cut, if_neg h]
theorem cut_snoc (l : List Int) : cut (l ++ [0]) = cut l := by
 rw [cut, if_pos (by simp)]; simp
theorem cut_spec (l : List Int) : ∃ k, l = cut l ++ List.replicate k 0 := by
 induction hn : l.length using Nat.strongRecOn generalizing l with
 | ind n ih =>
  rw [cut]
  split
  ·rename_i h
   have hne : l ≠ [] := by intro e; rw [e] at h; simp at h
   obtain ⟨k, hk⟩ := ih l.dropLast.length (by have := List.length_pos_iff.2 hne; simp; omega) _ rfl
   refine ⟨k + 1, ?_⟩
   have h2 : l.dropLast ++ [0] = l := by
    have h3 := List.dropLast_concat_getLast hne
    rw [List.getLast?_eq_some_getLast hne] at h
    rw [Option.some.inj h] at h3
    exact h3
   rw [List.replicate_succ', ← List.append_assoc, ← hk, h2]
  ·exact ⟨0, by simp⟩
theorem vl_cut (B : Int) (l : List Int) : vl B (cut l) = vl B l := by
 obtain ⟨k, hk⟩ := cut_spec l
 conv => rhs; rw [hk, vl_append, vl_replicate]
 simp
theorem cut_digs {B : Int} {l : List Int} (h : Digs B l) : Digs B (cut l) := by
 obtain ⟨k, hk⟩ := cut_spec l
 rw [hk] at h
 exact h.left
theorem cut_eq_dg {b : Nat} (hb : 1 < b) {l : List Int} (h : Digs b l) : cut l = dg b (vl b l).toNat := by
 rw [← vl_cut, dg_vl hb (cut_digs h) (cut_noz l)]
def pad9 (x : Int) : List Int := dg 10 x.toNat ++ List.replicate (9 - (dg 10 x.toNat).length) 0
theorem vl_pad9 {x : Int} (h : 0 ≤ x) : vl 10 (pad9 x) = x := by
 unfold pad9
 rw [vl_append, vl_replicate]
 have := vl_dg (b := 10) (by omega) x.toNat
 have h2 : vl 10 (dg 10 x.toNat) = x := by rw [show (10 : Int) = ((10 : Nat) : Int) from rfl, this]; omega
 rw [h2]; simp
theorem pad9_length {x : Int} (h1 : x < LB) : (pad9 x).length = 9 := by
 have : (dg 10 x.toNat).length ≤ 9 := dg_length_le (by omega) (by simp; omega)
 unfold pad9; simp; omega
theorem pad9_digs (x : Int) : Digs 10 (pad9 x) := by
 refine Digs.append (dg_digs (b := 10) (by omega) _) ?_
 intro d hd
 have := List.eq_of_mem_replicate hd
 omega
def ungrp (l : List Int) : List Int := match l with
 | [] => []
 | [x] => dg 10 x.toNat
 | x :: l => pad9 x ++ ungrp l
theorem vl_ungrp : ∀ {l : List Int}, Digs LB l → vl 10 (ungrp l) = vl LB l
 | [], _ => rfl
 | [x], h => by
  have h1 := h.head
  have := vl_dg (b := 10) (by omega) x.toNat
  simp only [ungrp, vl]
  rw [show (10 : Int) = ((10 : Nat) : Int) from rfl, this]; omega
 | x :: y :: l, h => by
  have h1 := h.head
  rw [ungrp, vl_append, vl_pad9 h1.1, pad9_length h1.2, vl_ungrp h.tail, vl_cons]
  ·rfl
  ·simp
theorem ungrp_digs : ∀ l : List Int, Digs 10 (ungrp l)
 | [] => Digs.nil _
 | [_] => dg_digs (b := 10) (by omega) _
 | _ :: y :: l => by
  rw [ungrp]
  ·exact Digs.append (pad9_digs _) (ungrp_digs (y :: l))
  ·simp
theorem ungrp_ne : ∀ {l : List Int}, Digs LB l → NoZ l → l ≠ [] → ungrp l ≠ []
 | [], _, _, h => absurd rfl h
 | [x], h, hz, _ => by
  have h1 := h.head
  have : x ≠ 0 := by simpa [NoZ] using hz
  exact dg_ne_nil (by omega) (by omega)
 | x :: y :: l, h, hz, _ => by
  rw [ungrp]
  ·have := ungrp_ne h.tail hz.tail (by simp)
   simp [this]
  ·simp
theorem ungrp_noz : ∀ {l : List Int}, Digs LB l → NoZ l → NoZ (ungrp l)
 | [], _, _ => by simp [NoZ, ungrp]
 | [_], _, _ => dg_noz (by omega) _
 | x :: y :: l, h, hz => by
  have h2 := ungrp_ne h.tail hz.tail (by simp)
  have h3 := ungrp_noz h.tail hz.tail
  rw [ungrp]
  ·unfold NoZ at *
   rw [List.getLast?_append]
   cases hd : (ungrp (y :: l)).getLast? with
   | none => simp at hd; exact absurd hd h2
   | some z => rw [hd] at h3; simpa using h3
  ·simp
theorem ungrp_eq {l : List Int} (h : Digs LB l) (hz : NoZ l) : ungrp l = dg 10 (vl LB l).toNat := by
 rw [← vl_ungrp h]
 exact (dg_vl (b := 10) (by omega) (ungrp_digs l) (ungrp_noz h hz)).symm
def rtxt (q : Rat) : ByteArray := if q.den = 1 then txt q.num else txt q.num ++ ⟨#[47]⟩ ++ txt q.den
def RCano (s : ByteArray) : Prop := ∃ q, s = rtxt q
theorem txtN_ne47 (n : Nat) : ∀ c ∈ txtN n, c ≠ 47 := by
 intro c hc e
 rcases Nat.eq_zero_or_pos n with rfl | hn
 ·simp [txtN] at hc; rw [hc] at e; cases e
 ·have := (pos_txtN hn).digs c hc
  rw [e] at this
  have h47 : (47 : UInt8).toNat = 47 := rfl
  omega
theorem txtL_ne47 (n : Int) : ∀ c ∈ txtL n, c ≠ 47 := by
 intro c hc
 unfold txtL at hc
 split at hc
 ·rcases List.mem_cons.1 hc with rfl | hc
  ·decide
  ·exact txtN_ne47 _ c hc
 ·exact txtN_ne47 _ c hc
theorem rtxt_toList (q : Rat) : (rtxt q).data.toList = if q.den = 1 then txtL q.num else txtL q.num ++ 47 :: txtL q.den := by
 unfold rtxt
 split
 ·rfl
 ·simp [txt]
theorem rtxt_inj {p q : Rat} : rtxt p = rtxt q ↔ p = q := by
 constructor
 ·intro h
  have h1 := congrArg (fun s : ByteArray => s.data.toList) h
  simp only [rtxt_toList] at h1
  have key : ∀ (a b : Int) (m : List UInt8), txtL a = txtL b ++ 47 :: m → False := fun a b m e =>
   txtL_ne47 a 47 (by rw [e]; simp) rfl
  have sp : ∀ (l l' m m' : List UInt8), (∀ c ∈ l, c ≠ 47) → (∀ c ∈ l', c ≠ 47) → l ++ 47 :: m = l' ++ 47 :: m' → l = l' ∧ m = m' := by
   intro l
   induction l with
   | nil =>
    intro l' m m' _ h' e
    cases l' with
    | nil => simpa using e
    | cons c l' =>
     simp only [List.nil_append, List.cons_append, List.cons.injEq] at e
     exact absurd e.1.symm (h' c (by simp))
   | cons c l ih =>
    intro l' m m' h0 h' e
    cases l' with
    | nil =>
     simp only [List.nil_append, List.cons_append, List.cons.injEq] at e
     exact absurd e.1 (h0 c (by simp))
    | cons d l' =>
     simp only [List.cons_append, List.cons.injEq] at e
     obtain ⟨rfl, e⟩ := e
     obtain ⟨rfl, rfl⟩ := ih l' m m' (fun x hx => h0 x (by simp [hx])) (fun x hx => h' x (by simp [hx])) e
     exact ⟨rfl, rfl⟩
  have inj : ∀ a b : Int, txtL a = txtL b → a = b := fun a b e => by rw [← valL_txtL a, e, valL_txtL]
  by_cases hp : p.den = 1 <;> by_cases hq : q.den = 1
  ·rw [if_pos hp, if_pos hq] at h1
   exact Rat.ext (inj _ _ h1) (by rw [hp, hq])
  ·rw [if_pos hp, if_neg hq] at h1
   exact (key _ _ _ h1).elim
  ·rw [if_neg hp, if_pos hq] at h1
   exact (key _ _ _ h1.symm).elim
  ·rw [if_neg hp, if_neg hq] at h1
   obtain ⟨h2, h3⟩ := sp _ _ _ _ (txtL_ne47 _) (txtL_ne47 _) h1
   have h4 := inj _ _ h3
   exact Rat.ext (inj _ _ h2) (by exact_mod_cast h4)
 ·rintro rfl; rfl
end Go.Proofs.YtihbebbabjklkaaGreatDoor.Sv
set_option linter.unusedVariables false
namespace Go.Proofs.YtihbebbabjklkaaGreatDoor
instance (B : Int) (l : List Int) : Decidable (Sv.Digs B l) := inferInstanceAs (Decidable (∀ d, d ∈ l → 0 ≤ d ∧ d < B))
def AllD (l : List UInt8) : Prop := ∀ c ∈ l, 48 ≤ c.toNat ∧ c.toNat ≤ 57
instance (l : List UInt8) : Decidable (AllD l) := inferInstanceAs (Decidable (∀ c ∈ l, 48 ≤ c.toNat ∧ c.toNat ≤ 57))
end Go.Proofs.YtihbebbabjklkaaGreatDoor
namespace Go.Proofs.YtihbebbabjklkaaGreatDoor.PA end Go.Proofs.YtihbebbabjklkaaGreatDoor.PA
namespace Go.Proofs.YtihbebbabjklkaaGreatDoor
open Go.RowKit Go.Proofs.YtihbebbabjklkaaGreatDoor.PA Go.Proofs.WWords Go.Proofs.WLast Go.Proofs.WMore
def strings_CutPrefix.f (a0 : ByteArray) (a1 : ByteArray) : Option (ByteArray × Bool) := some (⟨(Lib.trimPrefix a0.data.toList a1.data.toList).toArray⟩, Lib.hasPrefix a0.data.toList a1.data.toList)
def strings_Trim.f (a0 : ByteArray) (a1 : ByteArray) : Option ByteArray :=
 if a0.size ≤ 9223372036854775807 ∧ a1.size < 4294967281 ∧ (a1.data.toList.all fun b => decide (b.toNat < 128)) = true then some ⟨(Lib.trimS a0.data.toList a1.data.toList).toArray⟩ else none
end Go.Proofs.YtihbebbabjklkaaGreatDoor
namespace Go.Proofs.YtihbebbabjklkaaGreatDoor.PA
open Go.RowKit Go.Proofs.YtihbebbabjklkaaGreatDoor.PA Go.Proofs.WWords Go.Proofs.WLast Go.Proofs.WMore
def bIcanonical.f (a0 : ByteArray) : Option (Bool) := (strings_CutPrefix.f a0 (⟨#[45]⟩ : ByteArray)).bind fun bt102 => (if bt102.1.toList = ([48] : List UInt8) then (some (!bt102.2)) else (if bt102.1.toList = ([] : List UInt8) then (some false) else (if 0 < (bt102.1.size : Int) then (if (bt bt102.1 0) = 48 then (some false) else ((strings_Trim.f bt102.1 (⟨#[48, 49, 50, 51, 52, 53, 54, 55, 56, 57]⟩ : ByteArray)).bind fun t104 => (some (t104.toList == ([] : List UInt8))))) else (none))))
def stringslite_HasPrefix.f (a0 : ByteArray) (a1 : ByteArray) : Option (Bool) := if (a0.size : Int) ≥ (a1.size : Int) then (if 0 ≤ (a1.size : Int) then (if (a1.size : Int) ≤ (a0.size : Int) then (some ((a0.extract 0 ((a1.size : Int) : Int).toNat).toList == a1.toList)) else (none)) else (none)) else (some false)
def stringslite_TrimPrefix.f (a0 : ByteArray) (a1 : ByteArray) : Option (ByteArray) := (stringslite_HasPrefix.f a0 a1).bind fun t105 => (if t105 = true then (if 0 ≤ (a1.size : Int) then (if (a1.size : Int) ≤ (a0.size : Int) then (some (a0.extract ((a1.size : Int) : Int).toNat a0.size)) else (none)) else (none)) else (some a0))
def strings_TrimPrefix.f (a0 : ByteArray) (a1 : ByteArray) : Option (ByteArray) := (stringslite_TrimPrefix.f a0 a1).bind fun t106 => (some t106)
def bIdigits.f (a0 : ByteArray) : Option (Int) := (strings_TrimPrefix.f a0 (⟨#[45]⟩ : ByteArray)).bind fun t107 => (some (t107.size : Int))
def bICheck.f (a0 : ByteArray) : Option (Int) := (bIcanonical.f a0).bind fun t108 => (if t108 = true then ((bIdigits.f a0).bind fun t109 => (if t109 > 4096 then (some 10) else (some 0))) else (some 3))
def bIAbs.f (a0 : ByteArray) : Option (ByteArray × Int) := (bICheck.f a0).bind fun t1229 => (if t1229 = 0 then ((strings_TrimPrefix.f a0 (⟨#[45]⟩ : ByteArray)).bind fun t1230 => (some (t1230, 0))) else (some ((⟨#[]⟩ : ByteArray), t1229)))
def bItrim.l0 : Nat → List Int → Option (List Int)
 | 0, _ => none
 | k + 1, x0 => if (x0.length : Int) > 0 then (if 0 ≤ (wrap64 ((x0.length : Int) - 1)) then (if (wrap64 ((x0.length : Int) - 1)) < (x0.length : Int) then (if (rd x0 (wrap64 ((x0.length : Int) - 1))) = 0 then (if (wrap64 ((x0.length : Int) - 1)) ≤ (x0.length : Int) then (bItrim.l0 k (x0.take ((wrap64 ((x0.length : Int) - 1)) : Int).toNat)) else (none)) else (some x0)) else (none)) else (none)) else (some x0)
def bItrim.f (k : Nat) (l0 : List Int) : Option (List Int) := bItrim.l0 k l0
end Go.Proofs.YtihbebbabjklkaaGreatDoor.PA
namespace Go.Proofs.YtihbebbabjklkaaGreatDoor.PA end Go.Proofs.YtihbebbabjklkaaGreatDoor.PA
namespace Go.Proofs.YtihbebbabjklkaaGreatDoor
open Go.RowKit Go.Proofs.YtihbebbabjklkaaGreatDoor.PA Go.Proofs.WWords Go.Proofs.WLast Go.Proofs.WMore
def dl (a : ByteArray) : List Int := a.data.toList.reverse.map Sv.chd
def gk (ds : List Int) : Nat → List Int
 | 0 => []
 | k + 1 => gk ds k ++ [Sv.vl 10 ((ds.drop (9 * k)).take 9)]
def slices_Collect_int.f (a0 : ByteArray) : Option (List Int) := if AllD a0.data.toList ∧ a0.size ≤ 4294967296 then some (gk (dl a0) ((a0.size + 8) / 9)) else none
def bIread.f (k : Nat) (a0 : ByteArray) : Option (Bool × List Int) := (strings_CutPrefix.f a0 (⟨#[45]⟩ : ByteArray)).bind fun bt116 => ((slices_Collect_int.f bt116.1).bind fun t118 => ((bItrim.f k t118).bind fun t121 => (some (bt116.2, t121))))
def bIpair.f (k : Nat) (a0 : ByteArray) (a1 : ByteArray) : Option (Bool × List Int × Bool × List Int × Int) := (bICheck.f a0).bind fun t113 => (if t113 = 0 then ((bICheck.f a1).bind fun t114 => (if t114 = 0 then ((bIread.f k a0).bind fun bt115 => ((bIread.f k a1).bind fun bt119 => (some (bt115.1, bt115.2, bt119.1, bt119.2, 0)))) else (some (false, ([] : List Int), false, ([] : List Int), t114)))) else (some (false, ([] : List Int), false, ([] : List Int), t113)))
end Go.Proofs.YtihbebbabjklkaaGreatDoor
namespace Go.Proofs.YtihbebbabjklkaaGreatDoor.PA
open Go.RowKit Go.Proofs.YtihbebbabjklkaaGreatDoor.PA Go.Proofs.WWords Go.Proofs.WLast Go.Proofs.WMore
def bIminus.l0 : Nat → List Int → List Int → List Int → Int → Int → Int → Option (List Int)
 | 0, _, _, _, _, _, _ => none
 | k + 1, x0, x1, x5, x6, x13, x14 => if x14 < x13 then (if 0 ≤ x14 then (if x14 < (x0.length : Int) then (if x14 < (x1.length : Int) then (if (wrap64 ((wrap64 ((rd x0 x14) - x6)) - (rd x1 x14))) < 0 then (if x14 < (x5.length : Int) then (bIminus.l0 k x0 x1 (x5.set (x14 : Int).toNat (wrap64 ((wrap64 ((wrap64 ((rd x0 x14) - x6)) - (rd x1 x14))) + 1000000000))) 1 x13 (wrap64 (x14 + 1))) else (none)) else (if x14 < (x5.length : Int) then (bIminus.l0 k x0 x1 (x5.set (x14 : Int).toNat (wrap64 ((wrap64 ((rd x0 x14) - x6)) - (rd x1 x14)))) 0 x13 (wrap64 (x14 + 1))) else (none))) else (if (wrap64 ((rd x0 x14) - x6)) < 0 then (if x14 < (x5.length : Int) then (bIminus.l0 k x0 x1 (x5.set (x14 : Int).toNat (wrap64 ((wrap64 ((rd x0 x14) - x6)) + 1000000000))) 1 x13 (wrap64 (x14 + 1))) else (none)) else (if x14 < (x5.length : Int) then (bIminus.l0 k x0 x1 (x5.set (x14 : Int).toNat (wrap64 ((rd x0 x14) - x6))) 0 x13 (wrap64 (x14 + 1))) else (none)))) else (none)) else (none)) else ((bItrim.f k x5).bind fun t232 => (some t232))
def bIminus.f (k : Nat) (l0 : List Int) (l1 : List Int) : Option (List Int) := if 0 ≤ (l0.length : Int) then (if ((l0.length : Int) : Int).toNat ≤ 35184372088832 then ((some (List.replicate ((l0.length : Int) : Int).toNat 0 : List Int)).bind fun y229 => (bIminus.l0 k l0 l1 y229 0 (y229.length : Int) 0)) else (none)) else (none)
end Go.Proofs.YtihbebbabjklkaaGreatDoor.PA
namespace Go.Proofs.YtihbebbabjklkaaGreatDoor.PA end Go.Proofs.YtihbebbabjklkaaGreatDoor.PA
namespace Go.Proofs.YtihbebbabjklkaaGreatDoor
open Go.RowKit Go.Proofs.YtihbebbabjklkaaGreatDoor.PA Go.Proofs.WWords Go.Proofs.WLast Go.Proofs.WMore
def ordAt (x y : List Int) : Nat → Int
 | 0 => 0
 | k + 1 => if rd x k = rd y k then ordAt x y k else rd x k - rd y k
def bIorder.f (l0 l1 : List Int) : Option Int :=
 if Sv.Digs Sv.LB l0 ∧ Sv.Digs Sv.LB l1 ∧ l0.length ≤ 4611686018427387904 ∧ l1.length ≤ 4611686018427387904 then some (if l0.length = l1.length then ordAt l0 l1 l0.length else (l0.length : Int) - l1.length) else none
def bIplus0.l0 : Nat → List Int → List Int → List Int → Int → Int → Int → Option (List Int)
 | 0, _, _, _, _, _, _ => none
 | k + 1, x0, x1, x5, x6, x20, x21 => if x21 < x20 then (if x21 < (x0.length : Int) then (if 0 ≤ x21 then (if x21 < (x1.length : Int) then (if x21 < (x5.length : Int) then (bIplus0.l0 k x0 x1 (x5.set (x21 : Int).toNat (Int.tmod (wrap64 ((wrap64 (x6 + (rd x0 x21))) + (rd x1 x21))) 1000000000)) (wrap64 (Int.tdiv (wrap64 ((wrap64 (x6 + (rd x0 x21))) + (rd x1 x21))) 1000000000)) x20 (wrap64 (x21 + 1))) else (none)) else (if x21 < (x5.length : Int) then (bIplus0.l0 k x0 x1 (x5.set (x21 : Int).toNat (Int.tmod (wrap64 (x6 + (rd x0 x21))) 1000000000)) (wrap64 (Int.tdiv (wrap64 (x6 + (rd x0 x21))) 1000000000)) x20 (wrap64 (x21 + 1))) else (none))) else (none)) else (if x21 < (x1.length : Int) then (if 0 ≤ x21 then (if x21 < (x5.length : Int) then (bIplus0.l0 k x0 x1 (x5.set (x21 : Int).toNat (Int.tmod (wrap64 (x6 + (rd x1 x21))) 1000000000)) (wrap64 (Int.tdiv (wrap64 (x6 + (rd x1 x21))) 1000000000)) x20 (wrap64 (x21 + 1))) else (none)) else (none)) else (if 0 ≤ x21 then (if x21 < (x5.length : Int) then (bIplus0.l0 k x0 x1 (x5.set (x21 : Int).toNat (Int.tmod x6 1000000000)) (wrap64 (Int.tdiv x6 1000000000)) x20 (wrap64 (x21 + 1))) else (none)) else (none)))) else ((bItrim.f k x5).bind fun t173 => (some t173))
def bIplus0.f (k : Nat) (l0 : List Int) (l1 : List Int) : Option (List Int) := if 0 ≤ (wrap64 ((l0.length : Int) + 1)) then (if (wrap64 ((l0.length : Int) + 1) : Int).toNat ≤ 35184372088832 then ((some (List.replicate (wrap64 ((l0.length : Int) + 1) : Int).toNat 0 : List Int)).bind fun y170 => (bIplus0.l0 k l0 l1 y170 0 (y170.length : Int) 0)) else (none)) else (none)
def bIplus.f (k : Nat) (l0 : List Int) (l1 : List Int) : Option (List Int) := if l0.length < l1.length then bIplus0.f k l1 l0 else bIplus0.f k l0 l1
def bIsum.f (k : Nat) (a0_0 : Bool) (l0_1 : List Int) (a1_0 : Bool) (l1_1 : List Int) : Option (Bool × List Int) :=
 if a0_0 = a1_0 then (bIplus.f k l0_1 l1_1).bind fun r => some (a0_0, r)
 else (bIorder.f l0_1 l1_1).bind fun t => (if t < 0 then bIminus.f k l1_1 l0_1 else bIminus.f k l0_1 l1_1).bind fun r => some (decide (t < 0) != a0_0, r)
def strconv_Itoa.f (a0 : Int) : Option ByteArray := if -9223372036854775808 ≤ a0 ∧ a0 ≤ 9223372036854775807 then some (Sv.txt a0) else none
end Go.Proofs.YtihbebbabjklkaaGreatDoor
namespace Go.Proofs.YtihbebbabjklkaaGreatDoor.PA
open Go.RowKit Go.Proofs.YtihbebbabjklkaaGreatDoor.PA Go.Proofs.WWords Go.Proofs.WLast Go.Proofs.WMore
def bInumber_size.f (a0_0 : Bool) (l0_1 : List Int) : Option (Int) := if (l0_1.length : Int) = 0 then (some 0) else (if 0 ≤ (wrap64 ((l0_1.length : Int) - 1)) then (if (wrap64 ((l0_1.length : Int) - 1)) < (l0_1.length : Int) then ((strconv_Itoa.f (rd l0_1 (wrap64 ((l0_1.length : Int) - 1)))).bind fun t294 => (some (wrap64 ((wrap64 ((wrap64 ((l0_1.length : Int) - 1)) * 9)) + (t294.size : Int))))) else (none)) else (none))
end Go.Proofs.YtihbebbabjklkaaGreatDoor.PA
namespace Go.Proofs.YtihbebbabjklkaaGreatDoor.PA end Go.Proofs.YtihbebbabjklkaaGreatDoor.PA
namespace Go.Proofs.YtihbebbabjklkaaGreatDoor
open Go.RowKit Go.Proofs.YtihbebbabjklkaaGreatDoor.PA Go.Proofs.WWords Go.Proofs.WLast Go.Proofs.WMore
abbrev BkT (zs : List Int) := { p : Int × Int // 0 ≤ p.1 ∧ p.1 < zs.length ∧ p.2 = rd zs p.1 }
def bkx (zs : List Int) (k : Nat) (h : k < zs.length) : BkT zs := ⟨((zs.length : Int) - 1 - k, rd zs ((zs.length : Int) - 1 - k)), by dsimp only; omega, by dsimp only; omega, rfl⟩
def bk (zs : List Int) : Nat → List (BkT zs)
 | 0 => []
 | k + 1 => if h : k < zs.length then bk zs k ++ [bkx zs k h] else bk zs k
def tstep (n : Nat) (i v : Int) : List UInt8 := if i < (n : Int) - 1 then Lib.repeatL [48] (9 - (Sv.txt v).size) ++ Sv.txtL v else Sv.txtL v
def tacc (neg : Bool) {zs : List Int} (pre : List (BkT zs)) : List UInt8 := (if neg then [45] else []) ++ pre.flatMap fun x => tstep zs.length x.1.1 x.1.2
def bInumber_text.f (neg : Bool) (l : List Int) : Option ByteArray :=
 if Sv.Digs Sv.LB l ∧ l.length ≤ 1099511627776 then some (if l = [] then ⟨#[48]⟩ else ⟨(tacc neg (bk l l.length)).toArray⟩) else none
end Go.Proofs.YtihbebbabjklkaaGreatDoor
namespace Go.Proofs.YtihbebbabjklkaaGreatDoor.PA
open Go.RowKit Go.Proofs.YtihbebbabjklkaaGreatDoor.PA Go.Proofs.WWords Go.Proofs.WLast Go.Proofs.WMore
def bIwritten.f (a0_0 : Bool) (l0_1 : List Int) : Option (ByteArray × Int) := (bInumber_size.f a0_0 l0_1).bind fun t296 => (if t296 > 4096 then (some ((⟨#[]⟩ : ByteArray), 10)) else ((bInumber_text.f a0_0 l0_1).bind fun t297 => (some (t297, 0))))
def bIAdd.f (k : Nat) (a0 : ByteArray) (a1 : ByteArray) : Option (ByteArray × Int) := (bIpair.f k a0 a1).bind fun bt939 => (if bt939.2.2.2.2 = 0 then ((bIsum.f k bt939.1 bt939.2.1 bt939.2.2.1 bt939.2.2.2.1).bind fun bt950 => ((bIwritten.f bt950.1 bt950.2).bind fun bt954 => (some (bt954.1, bt954.2)))) else (some ((⟨#[]⟩ : ByteArray), bt939.2.2.2.2)))
def bInegated.f (a0_0 : Bool) (l0_1 : List Int) : Option (Bool × List Int) := some (!a0_0, l0_1)
def bIsign.f (a0_0 : Bool) (l0_1 : List Int) : Option (Int) := if (l0_1.length : Int) = 0 then (some 0) else (if a0_0 = true then (some (-1)) else (some 1))
def bICompare.f (k : Nat) (a0 : ByteArray) (a1 : ByteArray) : Option (Int × Int) := (bIpair.f k a0 a1).bind fun bt330 => (if bt330.2.2.2.2 = 0 then ((bInegated.f bt330.2.2.1 bt330.2.2.2.1).bind fun bt341 => ((bIsum.f k bt330.1 bt330.2.1 bt341.1 bt341.2).bind fun bt345 => ((bIsign.f bt345.1 bt345.2).bind fun t349 => (some (t349, 0))))) else (some (0, bt330.2.2.2.2)))
end Go.Proofs.YtihbebbabjklkaaGreatDoor.PA
namespace Go.Proofs.YtihbebbabjklkaaGreatDoor.PA end Go.Proofs.YtihbebbabjklkaaGreatDoor.PA
namespace Go.Proofs.YtihbebbabjklkaaGreatDoor
open Go.RowKit Go.Proofs.YtihbebbabjklkaaGreatDoor.PA Go.Proofs.WWords Go.Proofs.WLast Go.Proofs.WMore
def bIsubtract.l0 : Nat → List Int → List Int → Int → Int → Int → Int → Option (Bool × List Int)
 | 0, _, _, _, _, _, _ => none
 | k + 1, x0, x1, x2, x7, x11, x12 => if x12 < x11 then (if x12 < (x1.length : Int) then (if 0 ≤ x12 then (if x12 < (x0.length : Int) then (if (wrap64 ((rd x0 x12) - (Int.tmod (wrap64 (x7 + (wrap64 (x2 * (rd x1 x12))))) 1000000000))) < 0 then (bIsubtract.l0 k (x0.set (x12 : Int).toNat (wrap64 ((wrap64 ((rd x0 x12) - (Int.tmod (wrap64 (x7 + (wrap64 (x2 * (rd x1 x12))))) 1000000000))) + 1000000000))) x1 x2 (wrap64 ((wrap64 (Int.tdiv (wrap64 (x7 + (wrap64 (x2 * (rd x1 x12))))) 1000000000)) + 1)) x11 (wrap64 (x12 + 1))) else (bIsubtract.l0 k (x0.set (x12 : Int).toNat (wrap64 ((rd x0 x12) - (Int.tmod (wrap64 (x7 + (wrap64 (x2 * (rd x1 x12))))) 1000000000)))) x1 x2 (wrap64 (Int.tdiv (wrap64 (x7 + (wrap64 (x2 * (rd x1 x12))))) 1000000000)) x11 (wrap64 (x12 + 1)))) else (none)) else (none)) else (if 0 ≤ x12 then (if x12 < (x0.length : Int) then (if (wrap64 ((rd x0 x12) - (Int.tmod x7 1000000000))) < 0 then (bIsubtract.l0 k (x0.set (x12 : Int).toNat (wrap64 ((wrap64 ((rd x0 x12) - (Int.tmod x7 1000000000))) + 1000000000))) x1 x2 (wrap64 ((wrap64 (Int.tdiv x7 1000000000)) + 1)) x11 (wrap64 (x12 + 1))) else (bIsubtract.l0 k (x0.set (x12 : Int).toNat (wrap64 ((rd x0 x12) - (Int.tmod x7 1000000000)))) x1 x2 (wrap64 (Int.tdiv x7 1000000000)) x11 (wrap64 (x12 + 1)))) else (none)) else (none))) else (some ((x7 == 0), x0))
def bIsubtract.f (k : Nat) (l0 : List Int) (l1 : List Int) (a2 : Int) : Option (Bool × List Int) := bIsubtract.l0 k l0 l1 a2 0 (l0.length : Int) 0
mutual
def bIestimate.j1 : Nat → List Int → List Int → Int → Int → Option (Int × List Int)
 | 0, _, _, _, _ => none
 | k + 1, x0, x1, x5, x7 => (bIsubtract.f k x0 x1 x7).bind fun bt137 => (if bt137.1 = true then (some (x7, bt137.2)) else (bIestimate.l1 k bt137.2 x1 x5 (wrap64 (x7 - 1)) 0 (x0.length : Int) 0))
def bIestimate.l1 : Nat → List Int → List Int → Int → Int → Int → Int → Int → Option (Int × List Int)
 | 0, _, _, _, _, _, _, _ => none
 | k + 1, x0, x1, x5, x7, x9, x78, x79 => if x79 < x78 then (if 0 ≤ x79 then (if x79 < (x0.length : Int) then (if x79 < x5 then (if x79 < (x1.length : Int) then (bIestimate.l1 k (x0.set (x79 : Int).toNat (Int.tmod (wrap64 ((wrap64 (x9 + (rd x0 x79))) + (rd x1 x79))) 1000000000)) x1 x5 x7 (wrap64 (Int.tdiv (wrap64 ((wrap64 (x9 + (rd x0 x79))) + (rd x1 x79))) 1000000000)) x78 (wrap64 (x79 + 1))) else (none)) else (bIestimate.l1 k (x0.set (x79 : Int).toNat (Int.tmod (wrap64 (x9 + (rd x0 x79))) 1000000000)) x1 x5 x7 (wrap64 (Int.tdiv (wrap64 (x9 + (rd x0 x79))) 1000000000)) x78 (wrap64 (x79 + 1)))) else (none)) else (none)) else (some (x7, x0))
def bIestimate.l0 : Nat → List Int → List Int → Int → Int → Int → Option (Int × List Int)
 | 0, _, _, _, _, _ => none
 | k + 1, x0, x1, x5, x7, x8 => if x8 < 1000000000 then (if 0 ≤ (wrap64 (x5 - 2)) then (if (wrap64 (x5 - 2)) < (x1.length : Int) then (if (wrap64 (x5 - 2)) < (x0.length : Int) then (if (wrap64 (x7 * (rd x1 (wrap64 (x5 - 2))))) > (wrap64 ((wrap64 (x8 * 1000000000)) + (rd x0 (wrap64 (x5 - 2))))) then (if 0 ≤ (wrap64 (x5 - 1)) then (if (wrap64 (x5 - 1)) < (x1.length : Int) then (bIestimate.l0 k x0 x1 x5 (wrap64 (x7 - 1)) (wrap64 (x8 + (rd x1 (wrap64 (x5 - 1)))))) else (none)) else (none)) else (bIestimate.j1 k x0 x1 x5 x7)) else (none)) else (none)) else (none)) else (bIestimate.j1 k x0 x1 x5 x7)
end
def bIestimate.f (k : Nat) (l0 : List Int) (l1 : List Int) : Option (Int × List Int) := if 0 ≤ (l1.length : Int) then (if (l1.length : Int) < (l0.length : Int) then (if 0 ≤ (wrap64 ((l1.length : Int) - 1)) then (if (wrap64 ((l1.length : Int) - 1)) < (l0.length : Int) then (if (wrap64 ((l1.length : Int) - 1)) < (l1.length : Int) then (if (rd l1 (wrap64 ((l1.length : Int) - 1))) = 0 then (none) else (bIestimate.l0 k l0 l1 (l1.length : Int) (mn (wrap64 (Int.tdiv (wrap64 ((wrap64 ((rd l0 (l1.length : Int)) * 1000000000)) + (rd l0 (wrap64 ((l1.length : Int) - 1))))) (rd l1 (wrap64 ((l1.length : Int) - 1))))) 999999999) (wrap64 ((wrap64 ((wrap64 ((rd l0 (l1.length : Int)) * 1000000000)) + (rd l0 (wrap64 ((l1.length : Int) - 1))))) - (wrap64 ((mn (wrap64 (Int.tdiv (wrap64 ((wrap64 ((rd l0 (l1.length : Int)) * 1000000000)) + (rd l0 (wrap64 ((l1.length : Int) - 1))))) (rd l1 (wrap64 ((l1.length : Int) - 1))))) 999999999) * (rd l1 (wrap64 ((l1.length : Int) - 1))))))))) else (none)) else (none)) else (none)) else (none)) else (none)
def bIestimateW.f (k : Nat) (l0 : List Int) (j : Int) (l1 : List Int) : Option (Int × List Int) :=
 if 0 ≤ j ∧ j + (l1.length : Int) + 1 ≤ (l0.length : Int) then (bIestimate.f k ((l0.drop j.toNat).take (l1.length + 1)) l1).bind fun t => some (t.1, l0.take j.toNat ++ t.2 ++ l0.drop (j.toNat + (l1.length + 1))) else none
def stp (d : Int) (p : List Int × Int) (i v : Int) : List Int × Int := (p.1.set i.toNat (Int.tdiv (p.2 * 1000000000 + v) d), Int.tmod (p.2 * 1000000000 + v) d)
def fld (d : Int) {zs : List Int} (pre : List (BkT zs)) : List Int × Int := pre.foldl (fun p x => stp d p x.1.1 x.1.2) (List.replicate zs.length 0, 0)
def bIshort.f (k : Nat) (l0 : List Int) (a1 : Int) : Option (List Int × Int) :=
 if 0 < a1 ∧ a1 < 1000000000 ∧ Sv.Digs Sv.LB l0 ∧ l0.length ≤ 17592186044416 then (PA.bItrim.f k (fld a1 (bk l0 l0.length)).1).bind fun t => some (t, (fld a1 (bk l0 l0.length)).2) else none
mutual
def bIdivide.l0 : Nat → List Int → List Int → List Int → List Int → Option (List Int × List Int)
 | 0, _, _, _, _ => none
 | k + 1, x0, x8, x9, x10 => if (x9.length : Int) ≤ (x0.length : Int) then (if x9.length < 17592186044416 then (bIdivide.l0 k x0 x8 (x9 ++ [0]) x10) else (none)) else (if 0 ≤ (wrap64 ((x9.length : Int) - (x10.length : Int))) then (if (wrap64 ((x9.length : Int) - (x10.length : Int)) : Int).toNat ≤ 35184372088832 then (bIdivide.l1 k x8 x9 x10 (List.replicate (wrap64 ((x9.length : Int) - (x10.length : Int)) : Int).toNat 0) (wrap64 ((wrap64 ((x9.length : Int) - (x10.length : Int))) - 1))) else (none)) else (none))
def bIdivide.l1 : Nat → List Int → List Int → List Int → List Int → Int → Option (List Int × List Int)
 | 0, _, _, _, _, _ => none
 | k + 1, x8, x9, x10, x12, x13 => if x13 ≥ 0 then ((bIestimateW.f k x9 x13 x10).bind fun bt157 => (if 0 ≤ x13 then (if x13 < (x12.length : Int) then (bIdivide.l1 k x8 bt157.2 x10 (x12.set (x13 : Int).toNat bt157.1) (wrap64 (x13 - 1))) else (none)) else (none))) else ((bItrim.f k x9).bind fun t160 => (if 0 < (x8.length : Int) then ((bIshort.f k t160 (rd x8 0)).bind fun bt164 => ((bItrim.f k x12).bind fun t168 => (some (t168, bt164.1)))) else (none)))
end
end Go.Proofs.YtihbebbabjklkaaGreatDoor
namespace Go.Proofs.YtihbebbabjklkaaGreatDoor.PA
open Go.RowKit Go.Proofs.YtihbebbabjklkaaGreatDoor.PA Go.Proofs.WWords Go.Proofs.WLast Go.Proofs.WMore
mutual
def bItimes.l0 : Nat → List Int → List Int → List Int → Int → Int → Option (List Int)
 | 0, _, _, _, _, _ => none
 | k + 1, x1, x5, x17, x18, x19 => if x19 < x18 then (if 0 ≤ x19 then (if x19 < (x17.length : Int) then (bItimes.l1 k x1 x5 x19 (rd x17 x19) 0 x17 x18 x19 x1 (x1.length : Int) 0) else (none)) else (none)) else ((bItrim.f k x5).bind fun t118 => (some t118))
def bItimes.l1 : Nat → List Int → List Int → Int → Int → Int → List Int → Int → Int → List Int → Int → Int → Option (List Int)
 | 0, _, _, _, _, _, _, _, _, _, _, _ => none
 | k + 1, x1, x5, x6, x7, x8, x17, x18, x19, x24, x25, x26 => if x26 < x25 then (if 0 ≤ x26 then (if x26 < (x24.length : Int) then (if 0 ≤ (wrap64 (x6 + x26)) then (if (wrap64 (x6 + x26)) < (x5.length : Int) then (bItimes.l1 k x1 (x5.set ((wrap64 (x6 + x26)) : Int).toNat (Int.tmod (wrap64 (x8 + (wrap64 ((rd x5 (wrap64 (x6 + x26))) + (wrap64 (x7 * (rd x24 x26))))))) 1000000000)) x6 x7 (wrap64 (Int.tdiv (wrap64 (x8 + (wrap64 ((rd x5 (wrap64 (x6 + x26))) + (wrap64 (x7 * (rd x24 x26))))))) 1000000000)) x17 x18 x19 x24 x25 (wrap64 (x26 + 1))) else (none)) else (none)) else (none)) else (none)) else (if 0 ≤ (wrap64 (x6 + (x1.length : Int))) then (if (wrap64 (x6 + (x1.length : Int))) < (x5.length : Int) then (bItimes.l0 k x1 (x5.set ((wrap64 (x6 + (x1.length : Int))) : Int).toNat x8) x17 x18 (wrap64 (x19 + 1))) else (none)) else (none))
end
def bItimes.f (k : Nat) (l0 : List Int) (l1 : List Int) : Option (List Int) := if 0 ≤ (wrap64 ((l0.length : Int) + (l1.length : Int))) then (if (wrap64 ((l0.length : Int) + (l1.length : Int)) : Int).toNat ≤ 35184372088832 then (bItimes.l0 k l1 (List.replicate (wrap64 ((l0.length : Int) + (l1.length : Int)) : Int).toNat 0) l0 (l0.length : Int) 0) else (none)) else (none)
end Go.Proofs.YtihbebbabjklkaaGreatDoor.PA
namespace Go.Proofs.YtihbebbabjklkaaGreatDoor.PA end Go.Proofs.YtihbebbabjklkaaGreatDoor.PA
namespace Go.Proofs.YtihbebbabjklkaaGreatDoor
open Go.RowKit Go.Proofs.YtihbebbabjklkaaGreatDoor.PA Go.Proofs.WWords Go.Proofs.WLast Go.Proofs.WMore
def bIdivide.f (k : Nat) (l0 : List Int) (l1 : List Int) : Option (List Int × List Int) := (bIorder.f l0 l1).bind fun t126 => (if t126 < 0 then (some (([] : List Int), l0)) else (if (l1.length : Int) = 1 then (if 0 < (l1.length : Int) then ((bIshort.f k l0 (rd l1 0)).bind fun bt128 => ((bItrim.f k (([bt128.2] : List Int))).bind fun t135 => (some (bt128.1, t135)))) else (none)) else (if 0 ≤ (wrap64 ((l1.length : Int) - 1)) then (if (wrap64 ((l1.length : Int) - 1)) < (l1.length : Int) then (if (wrap64 ((rd l1 (wrap64 ((l1.length : Int) - 1))) + 1)) = 0 then (none) else ((some (([wrap64 (Int.tdiv 1000000000 (wrap64 ((rd l1 (wrap64 ((l1.length : Int) - 1))) + 1)))] : List Int) : List Int)).bind fun y139 => ((bItimes.f k l0 y139).bind fun t142 => (if t142.length < 17592186044416 then ((bItimes.f k l1 y139).bind fun t148 => (bIdivide.l0 k l0 y139 (t142 ++ [0]) t148)) else (none))))) else (none)) else (none))))
end Go.Proofs.YtihbebbabjklkaaGreatDoor
namespace Go.Proofs.YtihbebbabjklkaaGreatDoor.PA
open Go.RowKit Go.Proofs.YtihbebbabjklkaaGreatDoor.PA Go.Proofs.WWords Go.Proofs.WLast Go.Proofs.WMore
def bIcommon.l0 : Nat → List Int → List Int → Option (List Int)
 | 0, _, _ => none
 | k + 1, x0, x1 => if (x1.length : Int) > 0 then ((bIdivide.f k x0 x1).bind fun bt171 => (bIcommon.l0 k x1 bt171.2)) else (some x0)
def bIcommon.f (k : Nat) (l0 : List Int) (l1 : List Int) : Option (List Int) := bIcommon.l0 k l0 l1
def bIGcd.f (k : Nat) (a0 : ByteArray) (a1 : ByteArray) : Option (ByteArray × Int) := (bIpair.f k a0 a1).bind fun bt177 => (if bt177.2.2.2.2 = 0 then ((bIcommon.f k bt177.2.1 bt177.2.2.2.1).bind fun t188 => ((bInumber_text.f false t188).bind fun t191 => (some (t191, 0)))) else (some ((⟨#[]⟩ : ByteArray), bt177.2.2.2.2)))
def bIMax.f (k : Nat) (a0 : ByteArray) (a1 : ByteArray) : Option (ByteArray × Int) := (bICompare.f k a0 a1).bind fun bt1118 => (if bt1118.2 = 0 then (if bt1118.1 < 0 then (some (a1, 0)) else (some (a0, 0))) else (some ((⟨#[]⟩ : ByteArray), bt1118.2)))
def bIMin.f (k : Nat) (a0 : ByteArray) (a1 : ByteArray) : Option (ByteArray × Int) := (bICompare.f k a0 a1).bind fun bt1116 => (if bt1116.2 = 0 then (if bt1116.1 > 0 then (some (a1, 0)) else (some (a0, 0))) else (some ((⟨#[]⟩ : ByteArray), bt1116.2)))
def bIproduct.f (k : Nat) (a0_0 : Bool) (l0_1 : List Int) (a1_0 : Bool) (l1_1 : List Int) : Option (Bool × List Int) := (bItimes.f k l0_1 l1_1).bind fun t376 => (some ((a0_0 != a1_0), t376))
def bIMul.f (k : Nat) (a0 : ByteArray) (a1 : ByteArray) : Option (ByteArray × Int) := (bIpair.f k a0 a1).bind fun bt379 => (if bt379.2.2.2.2 = 0 then ((bIproduct.f k bt379.1 bt379.2.1 bt379.2.2.1 bt379.2.2.2.1).bind fun bt390 => ((bIwritten.f bt390.1 bt390.2).bind fun bt394 => (some (bt394.1, bt394.2)))) else (some ((⟨#[]⟩ : ByteArray), bt379.2.2.2.2)))
def bISub.f (k : Nat) (a0 : ByteArray) (a1 : ByteArray) : Option (ByteArray × Int) := (bIpair.f k a0 a1).bind fun bt300 => (if bt300.2.2.2.2 = 0 then ((bInegated.f bt300.2.2.1 bt300.2.2.2.1).bind fun bt311 => ((bIsum.f k bt300.1 bt300.2.1 bt311.1 bt311.2).bind fun bt315 => ((bIwritten.f bt315.1 bt315.2).bind fun bt319 => (some (bt319.1, bt319.2))))) else (some ((⟨#[]⟩ : ByteArray), bt300.2.2.2.2)))
def bINeg.f (k : Nat) (a0 : ByteArray) : Option (ByteArray × Int) := (bISub.f k (⟨#[48]⟩ : ByteArray) a0).bind fun bt321 => (some (bt321.1, bt321.2))
def bIOf.f (a0 : Int) : Option (ByteArray) := (strconv_Itoa.f a0).bind fun t1126 => (some t1126)
def bIquotient.f (k : Nat) (a0_0 : Bool) (l0_1 : List Int) (a1_0 : Bool) (l1_1 : List Int) : Option (Bool × List Int × Bool × List Int) := (bIdivide.f k l0_1 l1_1).bind fun bt245 => (if (a0_0 == a1_0) = true then (some (false, bt245.1, a1_0, bt245.2)) else (if (bt245.2.length : Int) > 0 then ((bIplus.f k bt245.1 (([1] : List Int))).bind fun t254 => ((bIminus.f k l1_1 bt245.2).bind fun t257 => (some (true, t254, a1_0, t257)))) else (some (true, bt245.1, a1_0, bt245.2))))
def bIdivided.f (k : Nat) (a0 : ByteArray) (a1 : ByteArray) : Option (ByteArray × ByteArray × Int) := (bIpair.f k a0 a1).bind fun bt260 => (if bt260.2.2.2.2 = 0 then (if (bt260.2.2.2.1.length : Int) = 0 then (some ((⟨#[]⟩ : ByteArray), (⟨#[]⟩ : ByteArray), 19)) else ((bIquotient.f k bt260.1 bt260.2.1 bt260.2.2.1 bt260.2.2.2.1).bind fun bt271 => ((bInumber_text.f bt271.1 bt271.2.1).bind fun t281 => ((bInumber_text.f bt271.2.2.1 bt271.2.2.2).bind fun t282 => (some (t281, t282, 0)))))) else (some ((⟨#[]⟩ : ByteArray), (⟨#[]⟩ : ByteArray), bt260.2.2.2.2)))
def bIQuo.f (k : Nat) (a0 : ByteArray) (a1 : ByteArray) : Option (ByteArray × Int) := (bIdivided.f k a0 a1).bind fun bt283 => (some (bt283.1, bt283.2.2))
def bIRem.f (k : Nat) (a0 : ByteArray) (a1 : ByteArray) : Option (ByteArray × Int) := (bIdivided.f k a0 a1).bind fun bt928 => (some (bt928.2.1, bt928.2.2))
def bISign.f (k : Nat) (a0 : ByteArray) : Option (Int × Int) := (bICompare.f k a0 (⟨#[48]⟩ : ByteArray)).bind fun bt350 => (some (bt350.1, bt350.2))
end Go.Proofs.YtihbebbabjklkaaGreatDoor.PA
namespace Go.Proofs.YtihbebbabjklkaaGreatDoor.PA end Go.Proofs.YtihbebbabjklkaaGreatDoor.PA
namespace Go.Proofs.YtihbebbabjklkaaGreatDoor
open Go.RowKit Go.Proofs.YtihbebbabjklkaaGreatDoor.PA Go.Proofs.WWords Go.Proofs.WLast Go.Proofs.WMore
end Go.Proofs.YtihbebbabjklkaaGreatDoor
namespace Go.Proofs.YtihbebbabjklkaaGreatDoor.PA
open Go.RowKit Go.Proofs.YtihbebbabjklkaaGreatDoor.PA Go.Proofs.WWords Go.Proofs.WLast Go.Proofs.WMore
end Go.Proofs.YtihbebbabjklkaaGreatDoor.PA
namespace Go.Proofs.YtihbebbabjklkaaGreatDoor.PA end Go.Proofs.YtihbebbabjklkaaGreatDoor.PA
namespace Go.Proofs.YtihbebbabjklkaaGreatDoor
open Go.RowKit Go.Proofs.YtihbebbabjklkaaGreatDoor.PA Go.Proofs.WWords Go.Proofs.WLast Go.Proofs.WMore
end Go.Proofs.YtihbebbabjklkaaGreatDoor
namespace Go.Proofs.YtihbebbabjklkaaGreatDoor.PA
open Go.RowKit Go.Proofs.YtihbebbabjklkaaGreatDoor.PA Go.Proofs.WWords Go.Proofs.WLast Go.Proofs.WMore
def rAcommon.j0 : Nat → ByteArray → ByteArray → Bool → Option (Bool)
 | 0, _, _, _ => none
 | k + 1, x0, x1, x16 => if x16 = true then ((bIGcd.f k x0 x1).bind fun bt203 => (if bt203.2 = 0 then (some (bt203.1.toList != ([49] : List UInt8))) else (some true))) else none
def rAdigits.f (a0 : ByteArray) : Option (Int) := (strings_TrimPrefix.f a0 (⟨#[45]⟩ : ByteArray)).bind fun t192 => (some (t192.size : Int))
def rAcommon.f (k : Nat) (a0 : ByteArray) (a1 : ByteArray) : Option (Bool) := (rAdigits.f a0).bind fun t201 => (if t201 ≤ 4096 then ((rAdigits.f a1).bind fun t202 => (rAcommon.j0 k a0 a1 (decide (t202 ≤ 4096)))) else (rAcommon.j0 k a0 a1 false))
end Go.Proofs.YtihbebbabjklkaaGreatDoor.PA
namespace Go.Proofs.YtihbebbabjklkaaGreatDoor.PA end Go.Proofs.YtihbebbabjklkaaGreatDoor.PA
namespace Go.Proofs.YtihbebbabjklkaaGreatDoor
open Go.RowKit Go.Proofs.YtihbebbabjklkaaGreatDoor.PA Go.Proofs.WWords Go.Proofs.WLast Go.Proofs.WMore
def strings_Contains.f (a0 : ByteArray) (a1 : ByteArray) : Option Bool :=
 match a1.data.toList with
 | [c] => some (decide (0 ≤ Lib.indexByte a0.data.toList c))
 | _ => none
end Go.Proofs.YtihbebbabjklkaaGreatDoor
namespace Go.Proofs.YtihbebbabjklkaaGreatDoor.PA
open Go.RowKit Go.Proofs.YtihbebbabjklkaaGreatDoor.PA Go.Proofs.WWords Go.Proofs.WLast Go.Proofs.WMore
mutual
def rACheck.j0 : Nat → ByteArray → ByteArray → ByteArray → Bool → Option (Int)
 | 0, _, _, _, _ => none
 | k + 1, x0, x3, x4, x17 => if x17 = true then (some 3) else ((strings_Contains.f x0 (⟨#[47]⟩ : ByteArray)).bind fun t219 => (if t219 = true then (if x4.toList = ([48] : List UInt8) then (rACheck.j1 k x3 x4 true) else (if x4.toList = ([49] : List UInt8) then (rACheck.j1 k x3 x4 true) else (if 0 < (x4.size : Int) then (if (bt x4 0) = 45 then (rACheck.j1 k x3 x4 true) else ((rAcommon.f k x3 x4).bind fun t220 => (rACheck.j1 k x3 x4 t220))) else (none)))) else (rACheck.j1 k x3 x4 false)))
def rACheck.j1 : Nat → ByteArray → ByteArray → Bool → Option (Int)
 | 0, _, _, _ => none
 | k + 1, x3, x4, x37 => if x37 = true then (some 3) else ((rAdigits.f x3).bind fun t221 => (if t221 > 4096 then (some 10) else ((rAdigits.f x4).bind fun t222 => (if t222 > 4096 then (some 10) else (some 0)))))
end
def rAcanonical.f (a0 : ByteArray) : Option (Bool) := (bICheck.f a0).bind fun t110 => (some (t110 != 3))
end Go.Proofs.YtihbebbabjklkaaGreatDoor.PA
namespace Go.Proofs.YtihbebbabjklkaaGreatDoor.PA end Go.Proofs.YtihbebbabjklkaaGreatDoor.PA
namespace Go.Proofs.YtihbebbabjklkaaGreatDoor
open Go.RowKit Go.Proofs.YtihbebbabjklkaaGreatDoor.PA Go.Proofs.WWords Go.Proofs.WLast Go.Proofs.WMore
def strings_IndexByte.f (a0 : ByteArray) (a1 : Int) : Option Int := some (Lib.indexByte a0.data.toList a1.toNat.toUInt8)
end Go.Proofs.YtihbebbabjklkaaGreatDoor
namespace Go.Proofs.YtihbebbabjklkaaGreatDoor.PA
open Go.RowKit Go.Proofs.YtihbebbabjklkaaGreatDoor.PA Go.Proofs.WWords Go.Proofs.WLast Go.Proofs.WMore
def rAsplit.f (a0 : ByteArray) : Option (ByteArray × ByteArray) := (strings_IndexByte.f a0 47).bind fun t101 => (if t101 ≥ 0 then (if 0 ≤ t101 then (if t101 ≤ (a0.size : Int) then (if 0 ≤ (wrap64 (t101 + 1)) then (if (wrap64 (t101 + 1)) ≤ (a0.size : Int) then (some (a0.extract 0 (t101 : Int).toNat, a0.extract ((wrap64 (t101 + 1)) : Int).toNat a0.size)) else (none)) else (none)) else (none)) else (none)) else (some (a0, (⟨#[49]⟩ : ByteArray))))
def rACheck.f (k : Nat) (a0 : ByteArray) : Option (Int) := (rAsplit.f a0).bind fun bt215 => ((rAcanonical.f bt215.1).bind fun t217 => (if t217 = true then ((rAcanonical.f bt215.2).bind fun t218 => (rACheck.j0 k a0 bt215.1 bt215.2 (!t218))) else (rACheck.j0 k a0 bt215.1 bt215.2 true)))
def rAnewPair.f (k : Nat) (a0 : ByteArray) (a1 : ByteArray) : Option (ByteArray × ByteArray × ByteArray × ByteArray × Int) := (rACheck.f k a0).bind fun t367 => (if t367 = 0 then ((rACheck.f k a1).bind fun t368 => (if t368 = 0 then ((rAsplit.f a0).bind fun bt369 => ((rAsplit.f a1).bind fun bt371 => (some (bt369.1, bt369.2, bt371.1, bt371.2, 0)))) else (some ((⟨#[]⟩ : ByteArray), (⟨#[]⟩ : ByteArray), (⟨#[]⟩ : ByteArray), (⟨#[]⟩ : ByteArray), t368)))) else (some ((⟨#[]⟩ : ByteArray), (⟨#[]⟩ : ByteArray), (⟨#[]⟩ : ByteArray), (⟨#[]⟩ : ByteArray), t367)))
def rAwhole.j0 : Nat → ByteArray → ByteArray → ByteArray → Option (ByteArray × Int)
 | 0, _, _, _ => none
 | k + 1, x0, x1, x6 => (bIQuo.f k x0 x6).bind fun bt358 => (if bt358.2 = 0 then ((bIQuo.f k x1 x6).bind fun bt360 => (if bt360.2 = 0 then (if bt360.1.toList = ([49] : List UInt8) then (some (bt358.1, 0)) else (if bt358.1.size + 1 ≤ 9223372036854775807 then (if (bt358.1 ++ (⟨#[47]⟩ : ByteArray)).size + bt360.1.size ≤ 9223372036854775807 then (some ((bt358.1 ++ (⟨#[47]⟩ : ByteArray)) ++ bt360.1, 0)) else (none)) else (none))) else (some ((⟨#[]⟩ : ByteArray), bt360.2)))) else (some ((⟨#[]⟩ : ByteArray), bt358.2)))
def rAwhole.f (k : Nat) (a0 : ByteArray) (a1 : ByteArray) : Option (ByteArray × Int) := (bIGcd.f k a0 a1).bind fun bt352 => (if bt352.2 = 0 then ((bISign.f k a1).bind fun bt354 => (if bt354.1 < 0 then ((bINeg.f k bt352.1).bind fun bt356 => (rAwhole.j0 k a0 a1 bt356.1)) else (rAwhole.j0 k a0 a1 bt352.1))) else (some ((⟨#[]⟩ : ByteArray), bt352.2)))
end Go.Proofs.YtihbebbabjklkaaGreatDoor.PA
namespace Go.Proofs.YtihbebbabjklkaaGreatDoor.PA end Go.Proofs.YtihbebbabjklkaaGreatDoor.PA
namespace Go.Proofs.YtihbebbabjklkaaGreatDoor
open Go.RowKit Go.Proofs.YtihbebbabjklkaaGreatDoor.PA Go.Proofs.WWords Go.Proofs.WLast Go.Proofs.WMore
def calcF (op : ByteArray → ByteArray → ByteArray → ByteArray → Option (ByteArray × ByteArray × Int)) (k : Nat) (a1 a2 : ByteArray) : Option (ByteArray × Int) :=
 (rAnewPair.f k a1 a2).bind fun x => if x.2.2.2.2 = 0 then (op x.1 x.2.1 x.2.2.1 x.2.2.2.1).bind fun y => if y.2.2 = 0 then rAwhole.f k y.1 y.2.1 else some (⟨#[]⟩, y.2.2) else some (⟨#[]⟩, x.2.2.2.2)
end Go.Proofs.YtihbebbabjklkaaGreatDoor
namespace Go.Proofs.YtihbebbabjklkaaGreatDoor.PA
open Go.RowKit Go.Proofs.YtihbebbabjklkaaGreatDoor.PA Go.Proofs.WWords Go.Proofs.WLast Go.Proofs.WMore
def rAboth.f (k : Nat) (a0 : ByteArray) (a1 : ByteArray) (a2 : ByteArray) (a3 : ByteArray) : Option (ByteArray × ByteArray × Int) := (bIMul.f k a0 a1).bind fun bt396 => (if bt396.2 = 0 then ((bIMul.f k a2 a3).bind fun bt398 => (some (bt396.1, bt398.1, bt398.2))) else (some ((⟨#[]⟩ : ByteArray), (⟨#[]⟩ : ByteArray), bt396.2)))
end Go.Proofs.YtihbebbabjklkaaGreatDoor.PA
namespace Go.Proofs.YtihbebbabjklkaaGreatDoor.PA end Go.Proofs.YtihbebbabjklkaaGreatDoor.PA
namespace Go.Proofs.YtihbebbabjklkaaGreatDoor
open Go.RowKit Go.Proofs.YtihbebbabjklkaaGreatDoor.PA Go.Proofs.WWords Go.Proofs.WLast Go.Proofs.WMore
def rAaddop.f (k : Nat) (a0_0 : ByteArray) (a0_1 : ByteArray) (a0_2 : ByteArray) (a0_3 : ByteArray) : Option (ByteArray × ByteArray × Int) := (rAboth.f k a0_0 a0_3 a0_2 a0_1).bind fun bt429 => (if bt429.2.2 = 0 then ((bIAdd.f k bt429.1 bt429.2.1).bind fun bt432 => (if bt432.2 = 0 then ((bIMul.f k a0_1 a0_3).bind fun bt434 => (some (bt432.1, bt434.1, bt434.2))) else (some ((⟨#[]⟩ : ByteArray), (⟨#[]⟩ : ByteArray), bt432.2)))) else (some ((⟨#[]⟩ : ByteArray), (⟨#[]⟩ : ByteArray), bt429.2.2)))
def rAoperations_1.f (k : Nat) (a0_0 : ByteArray) (a0_1 : ByteArray) (a0_2 : ByteArray) (a0_3 : ByteArray) : Option (ByteArray × ByteArray × Int) := (rAboth.f k a0_0 a0_2 a0_1 a0_3).bind fun bt429 => (some (bt429.1, bt429.2.1, bt429.2.2))
def rAoperations_2.f (k : Nat) (a0_0 : ByteArray) (a0_1 : ByteArray) (a0_2 : ByteArray) (a0_3 : ByteArray) : Option (ByteArray × ByteArray × Int) := if a0_2.toList = ([48] : List UInt8) then (some ((⟨#[]⟩ : ByteArray), (⟨#[]⟩ : ByteArray), 19)) else ((rAboth.f k a0_0 a0_3 a0_1 a0_2).bind fun bt429 => (some (bt429.1, bt429.2.1, bt429.2.2)))
def rAsubop.f (k : Nat) (a0_0 : ByteArray) (a0_1 : ByteArray) (a0_2 : ByteArray) (a0_3 : ByteArray) : Option (ByteArray × ByteArray × Int) := (rAboth.f k a0_0 a0_3 a0_2 a0_1).bind fun bt429 => (if bt429.2.2 = 0 then ((bISub.f k bt429.1 bt429.2.1).bind fun bt432 => (if bt432.2 = 0 then ((bIMul.f k a0_1 a0_3).bind fun bt434 => (some (bt432.1, bt434.1, bt434.2))) else (some ((⟨#[]⟩ : ByteArray), (⟨#[]⟩ : ByteArray), bt432.2)))) else (some ((⟨#[]⟩ : ByteArray), (⟨#[]⟩ : ByteArray), bt429.2.2)))
def rAcalculate.f (k : Nat) (a0 : Int) (a1 : ByteArray) (a2 : ByteArray) : Option (ByteArray × Int) :=
 if a0 = 43 then calcF (rAaddop.f k) k a1 a2 else if a0 = 45 then calcF (rAsubop.f k) k a1 a2 else if a0 = 42 then calcF (rAoperations_1.f k) k a1 a2 else if a0 = 47 then calcF (rAoperations_2.f k) k a1 a2 else none
end Go.Proofs.YtihbebbabjklkaaGreatDoor
namespace Go.Proofs.YtihbebbabjklkaaGreatDoor.PA
open Go.RowKit Go.Proofs.YtihbebbabjklkaaGreatDoor.PA Go.Proofs.WWords Go.Proofs.WLast Go.Proofs.WMore
def rAAdd.f (k : Nat) (a0 : ByteArray) (a1 : ByteArray) : Option (ByteArray × Int) := (rAcalculate.f k 43 a0 a1).bind fun bt411 => (some (bt411.1, bt411.2))
def rAFloor.f (k : Nat) (a0 : ByteArray) : Option (ByteArray × Int) := (rACheck.f k a0).bind fun t286 => (if t286 = 0 then ((rAsplit.f a0).bind fun bt287 => ((bIQuo.f k bt287.1 bt287.2).bind fun bt289 => (some (bt289.1, bt289.2)))) else (some ((⟨#[]⟩ : ByteArray), t286)))
def rANeg.f (k : Nat) (a0 : ByteArray) : Option (ByteArray × Int) := (rACheck.f k a0).bind fun t291 => (if t291 = 0 then (if a0.toList = ([48] : List UInt8) then (some (a0, 0)) else (if 0 < (a0.size : Int) then (if (bt a0 0) = 45 then (if 1 ≤ (a0.size : Int) then (some (a0.extract 1 a0.size, 0)) else (none)) else (if 1 + a0.size ≤ 9223372036854775807 then (some ((⟨#[45]⟩ : ByteArray) ++ a0, 0)) else (none))) else (none))) else (some ((⟨#[]⟩ : ByteArray), t291)))
def rACeil.f (k : Nat) (a0 : ByteArray) : Option (ByteArray × Int) := (rANeg.f k a0).bind fun bt323 => (if bt323.2 = 0 then ((rAFloor.f k bt323.1).bind fun bt325 => (if bt325.2 = 0 then ((bINeg.f k bt325.1).bind fun bt327 => (some (bt327.1, bt327.2))) else (some ((⟨#[]⟩ : ByteArray), bt325.2)))) else (some ((⟨#[]⟩ : ByteArray), bt323.2)))
def rACompare.f (k : Nat) (a0 : ByteArray) (a1 : ByteArray) : Option (Int × Int) := (rAnewPair.f k a0 a1).bind fun bt400 => (if bt400.2.2.2.2 = 0 then ((rAboth.f k bt400.1 bt400.2.2.2.1 bt400.2.2.1 bt400.2.1).bind fun bt406 => (if bt406.2.2 = 0 then ((bICompare.f k bt406.1 bt406.2.1).bind fun bt409 => (some (bt409.1, bt409.2))) else (some (0, bt406.2.2)))) else (some (0, bt400.2.2.2.2)))
def rADen.f (k : Nat) (a0 : ByteArray) : Option (ByteArray × Int) := (rACheck.f k a0).bind fun t226 => (if t226 = 0 then ((rAsplit.f a0).bind fun bt227 => (some (bt227.2, 0))) else (some ((⟨#[]⟩ : ByteArray), t226)))
def rADiv.f (k : Nat) (a0 : ByteArray) (a1 : ByteArray) : Option (ByteArray × Int) := (rAcalculate.f k 47 a0 a1).bind fun bt413 => (some (bt413.1, bt413.2))
def rAMul.f (k : Nat) (a0 : ByteArray) (a1 : ByteArray) : Option (ByteArray × Int) := (rAcalculate.f k 42 a0 a1).bind fun bt753 => (some (bt753.1, bt753.2))
def rANum.f (k : Nat) (a0 : ByteArray) : Option (ByteArray × Int) := (rACheck.f k a0).bind fun t223 => (if t223 = 0 then ((rAsplit.f a0).bind fun bt224 => (some (bt224.1, 0))) else (some ((⟨#[]⟩ : ByteArray), t223)))
def rAOf.f (k : Nat) (a0 : ByteArray) (a1 : ByteArray) : Option (ByteArray × Int) := (bICheck.f a0).bind fun t362 => (if t362 = 0 then ((bICheck.f a1).bind fun t363 => (if t363 = 0 then (if a1.toList = ([48] : List UInt8) then (some ((⟨#[]⟩ : ByteArray), 19)) else ((rAwhole.f k a0 a1).bind fun bt364 => (some (bt364.1, bt364.2)))) else (some ((⟨#[]⟩ : ByteArray), t363)))) else (some ((⟨#[]⟩ : ByteArray), t362)))
def rASub.f (k : Nat) (a0 : ByteArray) (a1 : ByteArray) : Option (ByteArray × Int) := (rAcalculate.f k 45 a0 a1).bind fun bt847 => (some (bt847.1, bt847.2))
def lWLong_text.l0 : Nat → List Int → Int → Int → Int → Int → Option (ByteArray)
 | 0, _, _, _, _, _ => none
 | k + 1, x3, x8, x9, x746000, x746001 => if x9 < x8 then (if x3.length < 140737488355328 then (lWLong_text.l0 k (x3 ++ [48]) x8 (wrap64 (x9 + 1)) x746000 x746001) else (none)) else (if 0 ≤ (wrap64 ((x3.length : Int) - 1)) then (if (wrap64 ((x3.length : Int) - 1)) < (x3.length : Int) then (some (strOfNums (x3.set ((wrap64 ((x3.length : Int) - 1)) : Int).toNat ((49 + (Int.tmod x746001 9)) % 256)))) else (none)) else (none))
def lWLong_text.f (k : Nat) (a0_0 : Int) (a0_1 : Int) : Option (ByteArray) := lWLong_text.l0 k (([49] : List Int)) (Int.tmod (wrap64 (a0_0)) 4098) 0 a0_0 a0_1
mutual
def lWawake.j0 : Nat → Bool → Option (Bool)
 | 0, _ => none
 | k + 1, x69 => if x69 = true then (some false) else ((rAAdd.f k (⟨#[49, 47, 50]⟩ : ByteArray) (⟨#[49, 47, 51]⟩ : ByteArray)).bind fun bt425 => ((rADiv.f k (⟨#[49, 47, 50]⟩ : ByteArray) (⟨#[45, 51]⟩ : ByteArray)).bind fun bt427 => ((rACompare.f k (⟨#[49, 47, 51]⟩ : ByteArray) (⟨#[50, 47, 53]⟩ : ByteArray)).bind fun bt429 => (if (wrap64 ((wrap64 (bt425.2 + bt427.2)) + bt429.2)) = 0 then (if bt425.1.toList = ([53, 47, 54] : List UInt8) then (if bt427.1.toList = ([45, 49, 47, 54] : List UInt8) then (lWawake.j1 k (bt429.1 != (-1))) else (lWawake.j1 k true)) else (lWawake.j1 k true)) else (lWawake.j1 k true)))))
def lWawake.j1 : Nat → Bool → Option (Bool)
 | 0, _ => none
 | k + 1, x99 => if x99 = true then (some false) else ((some (([(⟨#[50, 47, 52]⟩ : ByteArray), (⟨#[51, 47, 49]⟩ : ByteArray), (⟨#[49, 47, 45, 50]⟩ : ByteArray), (⟨#[45, 48]⟩ : ByteArray), (⟨#[49, 47, 48]⟩ : ByteArray), (⟨#[]⟩ : ByteArray)] : List ByteArray) : List ByteArray)).bind fun y431 => (lWawake.l0 k y431 (y431.length : Int) 0))
def lWawake.l0 : Nat → List ByteArray → Int → Int → Option (Bool)
 | 0, _, _, _ => none
 | k + 1, x100, x101, x102 => if x102 < x101 then (if 0 ≤ x102 then (if x102 < (x100.length : Int) then ((rACheck.f k (rdOf ByteArray.empty x100 x102)).bind fun t435 => (if t435 = 3 then (lWawake.l0 k x100 x101 (wrap64 (x102 + 1))) else (some false))) else (none)) else (none)) else ((rADiv.f k (⟨#[49]⟩ : ByteArray) (⟨#[48]⟩ : ByteArray)).bind fun bt436 => (some (bt436.2 == 19)))
end
def lWawake.f (k : Nat)  : Option (Bool) := (rAOf.f k (⟨#[54]⟩ : ByteArray) (⟨#[45, 52]⟩ : ByteArray)).bind fun bt415 => ((rANum.f k bt415.1).bind fun bt417 => ((rADen.f k bt415.1).bind fun bt419 => ((rAFloor.f k bt415.1).bind fun bt421 => ((rACeil.f k bt415.1).bind fun bt423 => (if (wrap64 ((wrap64 ((wrap64 ((wrap64 (bt415.2 + bt417.2)) + bt419.2)) + bt421.2)) + bt423.2)) = 0 then (if bt415.1.toList = ([45, 51, 47, 50] : List UInt8) then (if bt417.1.toList = ([45, 51] : List UInt8) then (if bt419.1.toList = ([50] : List UInt8) then (if bt421.1.toList = ([45, 50] : List UInt8) then (lWawake.j0 k (bt423.1.toList != ([45, 49] : List UInt8))) else (lWawake.j0 k true)) else (lWawake.j0 k true)) else (lWawake.j0 k true)) else (lWawake.j0 k true)) else (lWawake.j0 k true))))))
def rENegative.f (a0 : ByteArray) : Option (Bool) := if 0 < (a0.size : Int) then (some ((bt a0 0) == 45)) else (none)
def rEDigits.f (a0 : ByteArray) : Option (Int) := (rENegative.f a0).bind fun t438 => (if t438 = true then (some (wrap64 ((a0.size : Int) - 1))) else (some (a0.size : Int)))
def rFslash.l0 : Nat → ByteArray → Int → Option (Int)
 | 0, _, _ => none
 | k + 1, x0, x3 => if x3 < (x0.size : Int) then (if 0 ≤ x3 then (if (bt x0 x3) = 47 then (some x3) else (rFslash.l0 k x0 (wrap64 (x3 + 1)))) else (none)) else (some (-1))
def rFslash.f (k : Nat) (a0 : ByteArray) : Option (Int) := rFslash.l0 k a0 0
def rFBottom.f (k : Nat) (a0 : ByteArray) : Option (ByteArray) := (rFslash.f k a0).bind fun t442 => (if t442 ≥ 0 then (if 0 ≤ (wrap64 (t442 + 1)) then (if (wrap64 (t442 + 1)) ≤ (a0.size : Int) then (some (a0.extract ((wrap64 (t442 + 1)) : Int).toNat a0.size)) else (none)) else (none)) else (some (⟨#[49]⟩ : ByteArray)))
def rFTop.f (k : Nat) (a0 : ByteArray) : Option (ByteArray) := (rFslash.f k a0).bind fun t441 => (if t441 ≥ 0 then (if 0 ≤ t441 then (if t441 ≤ (a0.size : Int) then (some (a0.extract 0 (t441 : Int).toNat)) else (none)) else (none)) else (some a0))
def rFDigits.f (k : Nat) (a0 : ByteArray) : Option (Int) := (rFTop.f k a0).bind fun t649 => ((rEDigits.f t649).bind fun t650 => ((rFBottom.f k a0).bind fun t651 => ((rEDigits.f t651).bind fun t652 => (some (mx t650 t652)))))
mutual
def rEForm.j0 : Nat → ByteArray → Int → Bool → Option (Bool)
 | 0, _, _, _ => none
 | k + 1, x0, x3, x14 => if x14 = true then (rEForm.j1 k x0 1) else (rEForm.j1 k x0 x3)
def rEForm.j1 : Nat → ByteArray → Int → Option (Bool)
 | 0, _, _ => none
 | k + 1, x0, x3 => if x3 = (x0.size : Int) then (rEForm.j2 k x0 x3 true) else (if 0 ≤ x3 then (if x3 < (x0.size : Int) then (rEForm.j2 k x0 x3 ((bt x0 x3) == 48)) else (none)) else (none))
def rEForm.j2 : Nat → ByteArray → Int → Bool → Option (Bool)
 | 0, _, _, _ => none
 | k + 1, x0, x3, x24 => if x24 = true then (some false) else (rEForm.l0 k x0 x3)
def rEForm.l0 : Nat → ByteArray → Int → Option (Bool)
 | 0, _, _ => none
 | k + 1, x0, x4 => if x4 < (x0.size : Int) then (if 0 ≤ x4 then (if (bt x0 x4) < 48 then (some false) else (if (bt x0 x4) > 57 then (some false) else (rEForm.l0 k x0 (wrap64 (x4 + 1))))) else (none)) else (some true)
end
def rEForm.f (k : Nat) (a0 : ByteArray) : Option (Bool) := if a0.toList = ([48] : List UInt8) then (some true) else (if (a0.size : Int) > 0 then (if 0 < (a0.size : Int) then (rEForm.j0 k a0 0 ((bt a0 0) == 45)) else (none)) else (rEForm.j0 k a0 0 false))
def rECheck.f (k : Nat) (a0 : ByteArray) : Option (Int) := (rEForm.f k a0).bind fun t439 => (if t439 = true then ((rEDigits.f a0).bind fun t440 => (if t440 > 4096 then (some 10) else (some 0))) else (some 3))
def rENegated.f (a0 : ByteArray) : Option (ByteArray) := if a0.toList = ([48] : List UInt8) then (some a0) else ((rENegative.f a0).bind fun t517 => (if t517 = true then (if 1 ≤ (a0.size : Int) then (some (a0.extract 1 a0.size)) else (none)) else (if 1 + a0.size ≤ 9223372036854775807 then (some ((⟨#[45]⟩ : ByteArray) ++ a0)) else (none))))
def rEWhole.l0 : Nat → Int → ByteArray → Int → Option (ByteArray)
 | 0, _, _, _ => none
 | k + 1, x0, x3, x4 => if x4 = 0 then (if x0 < 0 then (if 1 + x3.size ≤ 9223372036854775807 then (some ((⟨#[45]⟩ : ByteArray) ++ x3)) else (none)) else (some x3)) else (if 0 ≤ (mx (Int.tmod x4 10) (wrap64 (-(Int.tmod x4 10)))) then (if (mx (Int.tmod x4 10) (wrap64 (-(Int.tmod x4 10)))) ≤ (wrap64 ((mx (Int.tmod x4 10) (wrap64 (-(Int.tmod x4 10)))) + 1)) then (if (wrap64 ((mx (Int.tmod x4 10) (wrap64 (-(Int.tmod x4 10)))) + 1)) ≤ 10 then (if ((⟨#[48, 49, 50, 51, 52, 53, 54, 55, 56, 57]⟩ : ByteArray).extract ((mx (Int.tmod x4 10) (wrap64 (-(Int.tmod x4 10)))) : Int).toNat ((wrap64 ((mx (Int.tmod x4 10) (wrap64 (-(Int.tmod x4 10)))) + 1)) : Int).toNat).size + x3.size ≤ 9223372036854775807 then (rEWhole.l0 k x0 (((⟨#[48, 49, 50, 51, 52, 53, 54, 55, 56, 57]⟩ : ByteArray).extract ((mx (Int.tmod x4 10) (wrap64 (-(Int.tmod x4 10)))) : Int).toNat ((wrap64 ((mx (Int.tmod x4 10) (wrap64 (-(Int.tmod x4 10)))) + 1)) : Int).toNat) ++ x3) (wrap64 (Int.tdiv x4 10))) else (none)) else (none)) else (none)) else (none))
def rEWhole.f (k : Nat) (a0 : Int) : Option (ByteArray) := if a0 = 0 then (some (⟨#[48]⟩ : ByteArray)) else (rEWhole.l0 k a0 (⟨#[]⟩ : ByteArray) a0)
def rEcut.l0 : Nat → List Int → Int → Option (List Int)
 | 0, _, _ => none
 | k + 1, x0, x3 => if x3 > 0 then (if 0 ≤ (wrap64 (x3 - 1)) then (if (wrap64 (x3 - 1)) < (x0.length : Int) then (if (rd x0 (wrap64 (x3 - 1))) = 0 then (rEcut.l0 k x0 (wrap64 (x3 - 1))) else (if 0 ≤ x3 then (if x3 ≤ (x0.length : Int) then (some (x0.take (x3 : Int).toNat)) else (none)) else (none))) else (none)) else (none)) else (if 0 ≤ x3 then (if x3 ≤ (x0.length : Int) then (some (x0.take (x3 : Int).toNat)) else (none)) else (none))
def rEcut.f (k : Nat) (l0 : List Int) : Option (List Int) := rEcut.l0 k l0 (l0.length : Int)
def rEdigits.l0 : Nat → ByteArray → List Int → Int → Option (List Int)
 | 0, _, _, _ => none
 | k + 1, x0, x3, x4 => if x4 ≥ 0 then (if 0 ≤ x4 then (if x4 < (x0.size : Int) then (if (bt x0 x4) = 45 then (some x3) else (if x3.length < 17592186044416 then (rEdigits.l0 k x0 (x3 ++ [((bt x0 x4) - 48) % 256]) (wrap64 (x4 - 1))) else (none))) else (none)) else (none)) else (some x3)
def rEdigits.f (k : Nat) (a0 : ByteArray) : Option (List Int) := rEdigits.l0 k a0 ([] : List Int) (wrap64 ((a0.size : Int) - 1))
mutual
def rEmade.j0 : Nat → List Int → List Int → Option (ByteArray)
 | 0, _, _ => none
 | k + 1, x0, x5 => rEmade.l0 k x0 x5 (wrap64 ((x0.length : Int) - 1))
def rEmade.l0 : Nat → List Int → List Int → Int → Option (ByteArray)
 | 0, _, _, _ => none
 | k + 1, x0, x5, x6 => if x6 ≥ 0 then (if 0 ≤ x6 then (if x6 < (x0.length : Int) then (if x5.length < 140737488355328 then (rEmade.l0 k x0 (x5 ++ [(wrap64 (48 + (rd x0 x6))) % 256]) (wrap64 (x6 - 1))) else (none)) else (none)) else (none)) else (some (strOfNums x5))
end
def rEmade.f (k : Nat) (l0 : List Int) (a1 : Bool) : Option (ByteArray) := (rEcut.f k l0).bind fun t479 => (if (t479.length : Int) = 0 then (some (⟨#[48]⟩ : ByteArray)) else (if a1 = true then (if ([] : List Int).length < 140737488355328 then (rEmade.j0 k t479 (([] : List Int) ++ [45])) else (none)) else (rEmade.j0 k t479 ([] : List Int))))
def rEat.f (l0 : List Int) (a1 : Int) : Option (Int) := if a1 < (l0.length : Int) then (if 0 ≤ a1 then (some (rd l0 a1)) else (none)) else (some 0)
def rEminus.l0 : Nat → List Int → List Int → List Int → Int → Int → Option (List Int)
 | 0, _, _, _, _, _ => none
 | k + 1, x0, x1, x5, x6, x7 => if x7 < (x0.length : Int) then (if 0 ≤ x7 then ((rEat.f x1 x7).bind fun t529 => (if (wrap64 ((wrap64 ((rd x0 x7) - t529)) - x6)) < 0 then (if x5.length < 17592186044416 then (rEminus.l0 k x0 x1 (x5 ++ [wrap64 ((wrap64 ((wrap64 ((rd x0 x7) - t529)) - x6)) + 10)]) 1 (wrap64 (x7 + 1))) else (none)) else (if x5.length < 17592186044416 then (rEminus.l0 k x0 x1 (x5 ++ [wrap64 ((wrap64 ((rd x0 x7) - t529)) - x6)]) 0 (wrap64 (x7 + 1))) else (none)))) else (none)) else ((rEcut.f k x5).bind fun t536 => (some t536))
def rEminus.f (k : Nat) (l0 : List Int) (l1 : List Int) : Option (List Int) := rEminus.l0 k l0 l1 ([] : List Int) 0 0
def rEnumber.l0 : Nat → ByteArray → Int → Int → Option (Int)
 | 0, _, _, _ => none
 | k + 1, x0, x3, x4 => if x4 < (x0.size : Int) then (if 0 ≤ x4 then (if (bt x0 x4) = 45 then (rEnumber.l0 k x0 x3 (wrap64 (x4 + 1))) else (rEnumber.l0 k x0 (wrap64 ((wrap64 (x3 * 10)) + (((bt x0 x4) - 48) % 256))) (wrap64 (x4 + 1)))) else (none)) else ((rENegative.f x0).bind fun t478 => (if t478 = true then (some (wrap64 (-x3))) else (some x3)))
def rEnumber.f (k : Nat) (a0 : ByteArray) : Option (Int) := rEnumber.l0 k a0 0 0
def rEorder.l0 : Nat → List Int → List Int → Int → Option (Int)
 | 0, _, _, _ => none
 | k + 1, x0, x1, x5 => if x5 ≥ 0 then (if 0 ≤ x5 then (if x5 < (x0.length : Int) then (if x5 < (x1.length : Int) then (if (rd x0 x5) = (rd x1 x5) then (rEorder.l0 k x0 x1 (wrap64 (x5 - 1))) else (if (rd x0 x5) < (rd x1 x5) then (some (-1)) else (some 1))) else (none)) else (none)) else (none)) else (some 0)
def rEorder.f (k : Nat) (l0 : List Int) (l1 : List Int) : Option (Int) := if (l0.length : Int) = (l1.length : Int) then (rEorder.l0 k l0 l1 (wrap64 ((l0.length : Int) - 1))) else (if (l0.length : Int) < (l1.length : Int) then (some (-1)) else (some 1))
def rEplus.l0 : Nat → List Int → List Int → List Int → Int → Int → Option (List Int)
 | 0, _, _, _, _, _ => none
 | k + 1, x0, x1, x5, x6, x7 => if x7 < (wrap64 ((mx (x0.length : Int) (x1.length : Int)) + 1)) then ((rEat.f x0 x7).bind fun t520 => ((rEat.f x1 x7).bind fun t521 => (if x5.length < 17592186044416 then (rEplus.l0 k x0 x1 (x5 ++ [Int.tmod (wrap64 (x6 + (wrap64 (t520 + t521)))) 10]) (wrap64 (Int.tdiv (wrap64 (x6 + (wrap64 (t520 + t521)))) 10)) (wrap64 (x7 + 1))) else (none)))) else ((rEcut.f k x5).bind fun t525 => (some t525))
def rEplus.f (k : Nat) (l0 : List Int) (l1 : List Int) : Option (List Int) := rEplus.l0 k l0 l1 ([] : List Int) 0 0
def rESum.j0 : Nat → ByteArray → ByteArray → Bool → Option (ByteArray)
 | 0, _, _, _ => none
 | k + 1, x0, x1, x12 => if x12 = true then ((rEnumber.f k x0).bind fun t541 => ((rEnumber.f k x1).bind fun t542 => ((rEWhole.f k (wrap64 (t541 + t542))).bind fun t543 => (some t543)))) else ((rEdigits.f k x0).bind fun t544 => ((rEdigits.f k x1).bind fun t547 => ((rENegative.f x0).bind fun t550 => ((rENegative.f x1).bind fun t551 => (if (t550 == t551) = true then ((rEplus.f k t544 t547).bind fun t552 => ((rENegative.f x0).bind fun t555 => ((rEmade.f k t552 t555).bind fun t556 => (some t556)))) else ((rEcut.f k t544).bind fun t557 => ((rEcut.f k t547).bind fun t560 => ((rEorder.f k t557 t560).bind fun t563 => (if t563 ≥ 0 then ((rEminus.f k t544 t547).bind fun t564 => ((rENegative.f x0).bind fun t567 => ((rEmade.f k t564 t567).bind fun t568 => (some t568)))) else ((rEminus.f k t547 t544).bind fun t569 => ((rENegative.f x1).bind fun t572 => ((rEmade.f k t569 t572).bind fun t573 => (some t573)))))))))))))
def rEshort.f (a0 : ByteArray) (a1 : Int) : Option (Bool) := (rEDigits.f a0).bind fun t518 => (some (decide (t518 ≤ a1)))
def rESum.f (k : Nat) (a0 : ByteArray) (a1 : ByteArray) : Option (ByteArray) := (rEshort.f a0 17).bind fun t539 => (if t539 = true then ((rEshort.f a1 17).bind fun t540 => (rESum.j0 k a0 a1 t540)) else (rESum.j0 k a0 a1 false))
def rEDiff.f (k : Nat) (a0 : ByteArray) (a1 : ByteArray) : Option (ByteArray) := (rENegated.f a1).bind fun t574 => ((rESum.f k a0 t574).bind fun t575 => (some t575))
def rEfloor.f (a0 : Int) (a1 : Int) : Option (Int) := if a1 = 0 then (none) else (if (Int.tmod a0 a1) = 0 then (some (wrap64 (Int.tdiv a0 a1))) else (if ((decide (a0 < 0)) != (decide (a1 < 0))) = true then (some (wrap64 ((wrap64 (Int.tdiv a0 a1)) - 1))) else (some (wrap64 (Int.tdiv a0 a1)))))
mutual
def rEsplit.l0 : Nat → List Int → List Int → List Int → List Int → Int → Option (List Int × List Int)
 | 0, _, _, _, _, _ => none
 | k + 1, x0, x1, x7, x8, x9 => if x9 ≥ 0 then (if 0 ≤ x9 then (if x9 < (x0.length : Int) then ((some (([rd x0 x9] : List Int) : List Int)).bind fun y590 => (if y590.length + x8.length < 17592186044416 then ((rEcut.f k (y590 ++ x8)).bind fun t596 => (rEsplit.l1 k x0 x1 x7 t596 x9)) else (none))) else (none)) else (none)) else ((rEcut.f k x7).bind fun t586 => (some (t586, x8)))
def rEsplit.l1 : Nat → List Int → List Int → List Int → List Int → Int → Option (List Int × List Int)
 | 0, _, _, _, _, _ => none
 | k + 1, x0, x1, x7, x8, x9 => (rEorder.f k x8 x1).bind fun t599 => (if t599 ≥ 0 then ((rEminus.f k x8 x1).bind fun t600 => (if 0 ≤ x9 then (if x9 < (x7.length : Int) then (rEsplit.l1 k x0 x1 (x7.set (x9 : Int).toNat (wrap64 ((rd x7 x9) + 1))) t600 x9) else (none)) else (none))) else (rEsplit.l0 k x0 x1 x7 x8 (wrap64 (x9 - 1))))
end
def rEsplit.f (k : Nat) (l0 : List Int) (l1 : List Int) : Option (List Int × List Int) := if 0 ≤ (mx 0 (wrap64 ((wrap64 ((l0.length : Int) - (l1.length : Int))) + 1))) then (if (mx 0 (wrap64 ((wrap64 ((l0.length : Int) - (l1.length : Int))) + 1)) : Int).toNat ≤ 35184372088832 then ((some (([] : List Int) : List Int)).bind fun y579 => (if (mx 0 (wrap64 ((wrap64 ((l0.length : Int) - (l1.length : Int))) + 1))) ≤ (l0.length : Int) then (if y579.length + (l0.drop ((mx 0 (wrap64 ((wrap64 ((l0.length : Int) - (l1.length : Int))) + 1))) : Int).toNat).length < 17592186044416 then (rEsplit.l0 k l0 l1 (List.replicate (mx 0 (wrap64 ((wrap64 ((l0.length : Int) - (l1.length : Int))) + 1)) : Int).toNat 0) (y579 ++ (l0.drop ((mx 0 (wrap64 ((wrap64 ((l0.length : Int) - (l1.length : Int))) + 1))) : Int).toNat)) (wrap64 ((mx 0 (wrap64 ((wrap64 ((l0.length : Int) - (l1.length : Int))) + 1))) - 1))) else (none)) else (none))) else (none)) else (none)
def rEFloor.j0 : Nat → ByteArray → ByteArray → Bool → Option (ByteArray)
 | 0, _, _, _ => none
 | k + 1, x0, x1, x13 => if x13 = true then ((rEnumber.f k x0).bind fun t607 => ((rEnumber.f k x1).bind fun t608 => ((rEfloor.f t607 t608).bind fun t609 => ((rEWhole.f k t609).bind fun t610 => (some t610))))) else ((rEdigits.f k x0).bind fun t611 => ((rEcut.f k t611).bind fun t614 => ((rEdigits.f k x1).bind fun t617 => ((rEcut.f k t617).bind fun t620 => ((rEsplit.f k t614 t620).bind fun bt623 => ((rENegative.f x0).bind fun t629 => ((rENegative.f x1).bind fun t630 => ((rEmade.f k bt623.1 (t629 != t630)).bind fun t631 => ((rENegative.f x0).bind fun t632 => ((rENegative.f x1).bind fun t633 => (if (t632 != t633) = true then (if (bt623.2.length : Int) > 0 then ((rEDiff.f k t631 (⟨#[49]⟩ : ByteArray)).bind fun t634 => (some t634)) else (some t631)) else (some t631))))))))))))
def rEFloor.f (k : Nat) (a0 : ByteArray) (a1 : ByteArray) : Option (ByteArray) := (rEshort.f a0 17).bind fun t605 => (if t605 = true then ((rEshort.f a1 17).bind fun t606 => (rEFloor.j0 k a0 a1 t606)) else (rEFloor.j0 k a0 a1 false))
mutual
def rEtimes.l0 : Nat → List Int → List Int → List Int → Int → Option (List Int)
 | 0, _, _, _, _ => none
 | k + 1, x0, x1, x5, x6 => if x6 < (x0.length : Int) then (rEtimes.l1 k x0 x1 x5 x6 0 0) else ((rEcut.f k x5).bind fun t492 => (some t492))
def rEtimes.l1 : Nat → List Int → List Int → List Int → Int → Int → Int → Option (List Int)
 | 0, _, _, _, _, _, _ => none
 | k + 1, x0, x1, x5, x6, x7, x8 => if x8 < (x1.length : Int) then (if 0 ≤ (wrap64 (x6 + x8)) then (if (wrap64 (x6 + x8)) < (x5.length : Int) then (if 0 ≤ x6 then (if x6 < (x0.length : Int) then (if 0 ≤ x8 then (rEtimes.l1 k x0 x1 (x5.set ((wrap64 (x6 + x8)) : Int).toNat (Int.tmod (wrap64 (x7 + (wrap64 ((rd x5 (wrap64 (x6 + x8))) + (wrap64 ((rd x0 x6) * (rd x1 x8))))))) 10)) x6 (wrap64 (Int.tdiv (wrap64 (x7 + (wrap64 ((rd x5 (wrap64 (x6 + x8))) + (wrap64 ((rd x0 x6) * (rd x1 x8))))))) 10)) (wrap64 (x8 + 1))) else (none)) else (none)) else (none)) else (none)) else (none)) else (if 0 ≤ (wrap64 (x6 + (x1.length : Int))) then (if (wrap64 (x6 + (x1.length : Int))) < (x5.length : Int) then (rEtimes.l0 k x0 x1 (x5.set ((wrap64 (x6 + (x1.length : Int))) : Int).toNat x7) (wrap64 (x6 + 1))) else (none)) else (none))
end
def rEtimes.f (k : Nat) (l0 : List Int) (l1 : List Int) : Option (List Int) := if 0 ≤ (wrap64 ((l0.length : Int) + (l1.length : Int))) then (if (wrap64 ((l0.length : Int) + (l1.length : Int)) : Int).toNat ≤ 35184372088832 then (rEtimes.l0 k l0 l1 (List.replicate (wrap64 ((l0.length : Int) + (l1.length : Int)) : Int).toNat 0) 0) else (none)) else (none)
def rEProduct.f (k : Nat) (a0 : ByteArray) (a1 : ByteArray) : Option (ByteArray) := (rEDigits.f a0).bind fun t500 => ((rEDigits.f a1).bind fun t501 => (if (wrap64 (t500 + t501)) ≤ 18 then ((rEnumber.f k a0).bind fun t502 => ((rEnumber.f k a1).bind fun t503 => ((rEWhole.f k (wrap64 (t502 * t503))).bind fun t504 => (some t504)))) else ((rEdigits.f k a0).bind fun t505 => ((rEdigits.f k a1).bind fun t508 => ((rEtimes.f k t505 t508).bind fun t511 => ((rENegative.f a0).bind fun t514 => ((rENegative.f a1).bind fun t515 => ((rEmade.f k t511 (t514 != t515)).bind fun t516 => (some t516)))))))))
def rERest.f (k : Nat) (a0 : ByteArray) (a1 : ByteArray) : Option (ByteArray) := (rEFloor.f k a0 a1).bind fun t635 => ((rEProduct.f k a1 t635).bind fun t636 => ((rEDiff.f k a0 t636).bind fun t637 => (some t637)))
def rECommon.l0 : Nat → ByteArray → ByteArray → Option (ByteArray)
 | 0, _, _ => none
 | k + 1, x5, x6 => if x6.toList = ([48] : List UInt8) then (some x5) else ((rERest.f k x5 x6).bind fun t640 => (rECommon.l0 k x6 t640))
def rEMagnitude.f (a0 : ByteArray) : Option (ByteArray) := (rENegative.f a0).bind fun t477 => (if t477 = true then (if 1 ≤ (a0.size : Int) then (some (a0.extract 1 a0.size)) else (none)) else (some a0))
def rECommon.f (k : Nat) (a0 : ByteArray) (a1 : ByteArray) : Option (ByteArray) := (rEMagnitude.f a0).bind fun t638 => ((rEMagnitude.f a1).bind fun t639 => (rECommon.l0 k t638 t639))
def rESign.f (a0 : ByteArray) : Option (Int) := if a0.toList = ([48] : List UInt8) then (some 0) else ((rENegative.f a0).bind fun t443 => (if t443 = true then (some (-1)) else (some 1)))
def rEOrder.f (k : Nat) (a0 : ByteArray) (a1 : ByteArray) : Option (Int) := (rESign.f a0).bind fun t462 => ((rESign.f a1).bind fun t463 => (if t462 = t463 then ((rEdigits.f k a0).bind fun t464 => ((rEcut.f k t464).bind fun t467 => ((rEdigits.f k a1).bind fun t470 => ((rEcut.f k t470).bind fun t473 => ((rEorder.f k t467 t473).bind fun t476 => (some (wrap64 (t462 * t476)))))))) else (if t462 < t463 then (some (-1)) else (some 1))))
mutual
def rFformed.j0 : Nat → ByteArray → Bool → Option (Bool)
 | 0, _, _ => none
 | k + 1, x0, x14 => if x14 = true then (some false) else ((rFslash.f k x0).bind fun t643 => (if t643 < 0 then (some true) else ((rFBottom.f k x0).bind fun t644 => ((rECheck.f k t644).bind fun t645 => (if t645 = 0 then (rFformed.j1 k x0 t644 false) else (rFformed.j1 k x0 t644 (t645 != 10)))))))
def rFformed.j1 : Nat → ByteArray → ByteArray → Bool → Option (Bool)
 | 0, _, _, _ => none
 | k + 1, x0, x4, x27 => if x27 = true then (some false) else ((rEOrder.f k x4 (⟨#[49]⟩ : ByteArray)).bind fun t646 => (if t646 > 0 then ((rFTop.f k x0).bind fun t647 => ((rECommon.f k t647 x4).bind fun t648 => (some (t648.toList == ([49] : List UInt8))))) else (some false)))
end
def rFformed.f (k : Nat) (a0 : ByteArray) : Option (Bool) := (rFTop.f k a0).bind fun t641 => ((rECheck.f k t641).bind fun t642 => (if t642 = 0 then (rFformed.j0 k a0 false) else (rFformed.j0 k a0 (t642 != 10))))
def rFCheck.f (k : Nat) (a0 : ByteArray) : Option (Int) := (rFformed.f k a0).bind fun t653 => (if t653 = true then ((rFDigits.f k a0).bind fun t654 => (if t654 > 4096 then (some 10) else (some 0))) else (some 3))
def rFUp.f (k : Nat) (a0 : ByteArray) : Option (ByteArray) := (rFTop.f k a0).bind fun t670 => ((rENegated.f t670).bind fun t671 => ((rFBottom.f k a0).bind fun t672 => ((rEFloor.f k t671 t672).bind fun t673 => ((rENegated.f t673).bind fun t674 => (some t674)))))
def rFCeil.f (k : Nat) (a0 : ByteArray) : Option (ByteArray × Int) := (rFCheck.f k a0).bind fun t675 => (if t675 = 0 then ((rFUp.f k a0).bind fun t676 => (some (t676, 0))) else (some ((⟨#[]⟩ : ByteArray), t675)))
def rFDen.f (k : Nat) (a0 : ByteArray) : Option (ByteArray × Int) := (rFCheck.f k a0).bind fun t657 => (if t657 = 0 then ((rFBottom.f k a0).bind fun t658 => (some (t658, 0))) else (some ((⟨#[]⟩ : ByteArray), t657)))
def rFFew.f (a0 : ByteArray) : Option (Bool) := some (decide ((a0.size : Int) ≤ 300))
def rFDown.f (k : Nat) (a0 : ByteArray) : Option (ByteArray) := (rFTop.f k a0).bind fun t665 => ((rFBottom.f k a0).bind fun t666 => ((rEFloor.f k t665 t666).bind fun t667 => (some t667)))
def rFFloor.f (k : Nat) (a0 : ByteArray) : Option (ByteArray × Int) := (rFCheck.f k a0).bind fun t668 => (if t668 = 0 then ((rFDown.f k a0).bind fun t669 => (some (t669, 0))) else (some ((⟨#[]⟩ : ByteArray), t668)))
def rFNegated.f (k : Nat) (a0 : ByteArray) : Option (ByteArray) := (rFslash.f k a0).bind fun t659 => (if t659 ≥ 0 then ((rFTop.f k a0).bind fun t660 => ((rENegated.f t660).bind fun t661 => (if 0 ≤ t659 then (if t659 ≤ (a0.size : Int) then (if t661.size + (a0.extract (t659 : Int).toNat a0.size).size ≤ 9223372036854775807 then (some (t661 ++ (a0.extract (t659 : Int).toNat a0.size))) else (none)) else (none)) else (none)))) else ((rENegated.f a0).bind fun t662 => (some t662)))
def rFNeg.f (k : Nat) (a0 : ByteArray) : Option (ByteArray × Int) := (rFCheck.f k a0).bind fun t663 => (if t663 = 0 then ((rFNegated.f k a0).bind fun t664 => (some (t664, 0))) else (some ((⟨#[]⟩ : ByteArray), t663)))
def rFNum.f (k : Nat) (a0 : ByteArray) : Option (ByteArray × Int) := (rFCheck.f k a0).bind fun t655 => (if t655 = 0 then ((rFTop.f k a0).bind fun t656 => (some (t656, 0))) else (some ((⟨#[]⟩ : ByteArray), t655)))
def rFboth.f (k : Nat) (a0 : ByteArray) (a1 : ByteArray) : Option (Int) := (rFCheck.f k a0).bind fun t755 => (if t755 = 0 then ((rFCheck.f k a1).bind fun t756 => (some t756)) else (some t755))
def rFFrac.j0 : Nat → ByteArray → ByteArray → Option (ByteArray)
 | 0, _, _ => none
 | k + 1, x0, x1 => (rECommon.f k x0 x1).bind fun t705 => ((rEFloor.f k x0 t705).bind fun t706 => ((rEFloor.f k x1 t705).bind fun t707 => (if t707.toList = ([49] : List UInt8) then (some t706) else (if t706.size + 1 ≤ 9223372036854775807 then (if (t706 ++ (⟨#[47]⟩ : ByteArray)).size + t707.size ≤ 9223372036854775807 then (some ((t706 ++ (⟨#[47]⟩ : ByteArray)) ++ t707)) else (none)) else (none)))))
def rFFrac.f (k : Nat) (a0 : ByteArray) (a1 : ByteArray) : Option (ByteArray) := (rESign.f a1).bind fun t702 => (if t702 < 0 then ((rENegated.f a0).bind fun t703 => ((rENegated.f a1).bind fun t704 => (rFFrac.j0 k t703 t704))) else (rFFrac.j0 k a0 a1))
def rFlarge.f (a0 : ByteArray) : Option (Bool) := (rEDigits.f a0).bind fun t757 => (some (decide (t757 > 4096)))
def rFsum.j0 : Nat → ByteArray → ByteArray → ByteArray → ByteArray → Option (ByteArray × Int)
 | 0, _, _, _, _ => none
 | k + 1, x9, x10, x11, x12 => (rFlarge.f x9).bind fun t780 => (if t780 = true then (some ((⟨#[]⟩ : ByteArray), 10)) else ((rFlarge.f x10).bind fun t781 => (if t781 = true then (some ((⟨#[]⟩ : ByteArray), 10)) else ((rFlarge.f x12).bind fun t782 => (if t782 = true then (some ((⟨#[]⟩ : ByteArray), 10)) else ((rFlarge.f x11).bind fun t783 => (if t783 = true then (some ((⟨#[]⟩ : ByteArray), 10)) else ((rFFrac.f k x12 x11).bind fun t784 => (some (t784, 0))))))))))
def rFsum.f (k : Nat) (a0 : ByteArray) (a1 : ByteArray) (a2 : Bool) : Option (ByteArray × Int) := (rFboth.f k a0 a1).bind fun t768 => (if t768 = 0 then ((rFTop.f k a0).bind fun t769 => ((rFBottom.f k a1).bind fun t770 => ((rEProduct.f k t769 t770).bind fun t771 => ((rFTop.f k a1).bind fun t772 => ((rFBottom.f k a0).bind fun t773 => ((rEProduct.f k t772 t773).bind fun t774 => ((rFBottom.f k a0).bind fun t775 => ((rFBottom.f k a1).bind fun t776 => ((rEProduct.f k t775 t776).bind fun t777 => ((rESum.f k t771 t774).bind fun t778 => (if a2 = true then ((rEDiff.f k t771 t774).bind fun t779 => (rFsum.j0 k t771 t774 t777 t779)) else (rFsum.j0 k t771 t774 t777 t778)))))))))))) else (some ((⟨#[]⟩ : ByteArray), t768)))
def rFAdd.f (k : Nat) (a0 : ByteArray) (a1 : ByteArray) : Option (ByteArray × Int) := (rFsum.f k a0 a1 false).bind fun bt785 => (some (bt785.1, bt785.2))
def rFCompare.f (k : Nat) (a0 : ByteArray) (a1 : ByteArray) : Option (Int × Int) := (rFboth.f k a0 a1).bind fun t787 => (if t787 = 0 then ((rFTop.f k a0).bind fun t788 => ((rFBottom.f k a1).bind fun t789 => ((rEProduct.f k t788 t789).bind fun t790 => ((rFTop.f k a1).bind fun t791 => ((rFBottom.f k a0).bind fun t792 => ((rEProduct.f k t791 t792).bind fun t793 => ((rFlarge.f t790).bind fun t794 => (if t794 = true then (some (0, 10)) else ((rFlarge.f t793).bind fun t795 => (if t795 = true then (some (0, 10)) else ((rEOrder.f k t790 t793).bind fun t796 => (some (t796, 0))))))))))))) else (some (0, t787)))
def rFDiv.f (k : Nat) (a0 : ByteArray) (a1 : ByteArray) : Option (ByteArray × Int) := (rFboth.f k a0 a1).bind fun t851 => (if t851 = 0 then (if a1.toList = ([48] : List UInt8) then (some ((⟨#[]⟩ : ByteArray), 19)) else ((rFTop.f k a0).bind fun t852 => ((rFBottom.f k a1).bind fun t853 => ((rEProduct.f k t852 t853).bind fun t854 => ((rFBottom.f k a0).bind fun t855 => ((rFTop.f k a1).bind fun t856 => ((rEProduct.f k t855 t856).bind fun t857 => ((rFlarge.f t854).bind fun t858 => (if t858 = true then (some ((⟨#[]⟩ : ByteArray), 10)) else ((rFlarge.f t857).bind fun t859 => (if t859 = true then (some ((⟨#[]⟩ : ByteArray), 10)) else ((rFFrac.f k t854 t857).bind fun t860 => (some (t860, 0)))))))))))))) else (some ((⟨#[]⟩ : ByteArray), t851)))
def rFMul.f (k : Nat) (a0 : ByteArray) (a1 : ByteArray) : Option (ByteArray × Int) := (rFboth.f k a0 a1).bind fun t758 => (if t758 = 0 then ((rFTop.f k a0).bind fun t759 => ((rFTop.f k a1).bind fun t760 => ((rEProduct.f k t759 t760).bind fun t761 => ((rFBottom.f k a0).bind fun t762 => ((rFBottom.f k a1).bind fun t763 => ((rEProduct.f k t762 t763).bind fun t764 => ((rFlarge.f t761).bind fun t765 => (if t765 = true then (some ((⟨#[]⟩ : ByteArray), 10)) else ((rFlarge.f t764).bind fun t766 => (if t766 = true then (some ((⟨#[]⟩ : ByteArray), 10)) else ((rFFrac.f k t761 t764).bind fun t767 => (some (t767, 0))))))))))))) else (some ((⟨#[]⟩ : ByteArray), t758)))
def rFSub.f (k : Nat) (a0 : ByteArray) (a1 : ByteArray) : Option (ByteArray × Int) := (rFsum.f k a0 a1 true).bind fun bt849 => (some (bt849.1, bt849.2))
def lWright.l0 : Nat → List ByteArray → Int → Int → Option (Bool)
 | 0, _, _, _ => none
 | k + 1, x5, x6, x7 => if x7 < x6 then (if 0 ≤ x7 then (if x7 < (x5.length : Int) then ((rFFew.f (rdOf ByteArray.empty x5 x7)).bind fun t718 => (if t718 = true then ((rFCheck.f k (rdOf ByteArray.empty x5 x7)).bind fun t719 => (if t719 = 0 then (lWright.l0 k x5 x6 (wrap64 (x7 + 1))) else (some false))) else (some false))) else (none)) else (none)) else (some true)
def lWright.f (k : Nat) (l0 : List ByteArray) : Option (Bool) := lWright.l0 k l0 (l0.length : Int) 0
def rFOf.f (k : Nat) (a0 : ByteArray) (a1 : ByteArray) : Option (ByteArray × Int) := (rECheck.f k a0).bind fun t708 => (if t708 = 0 then ((rECheck.f k a1).bind fun t709 => (if t709 = 0 then (if a1.toList = ([48] : List UInt8) then (some ((⟨#[]⟩ : ByteArray), 19)) else ((rFFrac.f k a0 a1).bind fun t710 => (some (t710, 0)))) else (some ((⟨#[]⟩ : ByteArray), t709)))) else (some ((⟨#[]⟩ : ByteArray), t708)))
def tPplayBroken.l0 : Nat → List ByteArray → Int → Int → Option (Bool)
 | 0, _, _, _ => none
 | k + 1, x5, x6, x7 => if x7 < x6 then (if 0 ≤ x7 then (if x7 < (x5.length : Int) then (if ((rdOf ByteArray.empty x5 x7).size : Int) > 250 then (some false) else ((rFCheck.f k (rdOf ByteArray.empty x5 x7)).bind fun t1026 => (if t1026 = 0 then (tPplayBroken.l0 k x5 x6 (wrap64 (x7 + 1))) else (some false)))) else (none)) else (none)) else (some true)
def tPplayBroken.f (k : Nat) (l0 : List ByteArray) : Option (Bool) := tPplayBroken.l0 k l0 (l0.length : Int) 0
def tPplayInts_of.f (s0_0 : Bool) (a1 : ByteArray) (a2 : Int) : Option (ByteArray × Bool) := if s0_0 = true then (if a2 = 0 then (some (a1, (a2 == 0))) else (some ((⟨#[48]⟩ : ByteArray), (a2 == 0)))) else (if a2 = 0 then (some (a1, false)) else (some ((⟨#[48]⟩ : ByteArray), false)))
def tPplayInts_add.f (k : Nat) (s0_0 : Bool) (a1 : ByteArray) (a2 : ByteArray) : Option (ByteArray × Bool) := (bIAdd.f k a1 a2).bind fun bt956 => ((tPplayInts_of.f s0_0 bt956.1 bt956.2).bind fun bt958 => (some (bt958.1, bt958.2)))
def tPplayInts_mul.f (k : Nat) (s0_0 : Bool) (a1 : ByteArray) (a2 : ByteArray) : Option (ByteArray × Bool) := (bIMul.f k a1 a2).bind fun bt964 => ((tPplayInts_of.f s0_0 bt964.1 bt964.2).bind fun bt966 => (some (bt966.1, bt966.2)))
def tPplayInts_sub.f (k : Nat) (s0_0 : Bool) (a1 : ByteArray) (a2 : ByteArray) : Option (ByteArray × Bool) := (bISub.f k a1 a2).bind fun bt960 => ((tPplayInts_of.f s0_0 bt960.1 bt960.2).bind fun bt962 => (some (bt962.1, bt962.2)))
def tPplayNumbers.f (k : Nat)  : Option (Bool) := (bIMul.f k (⟨#[55]⟩ : ByteArray) (⟨#[45, 51]⟩ : ByteArray)).bind fun bt931 => ((bIQuo.f k bt931.1 (⟨#[52]⟩ : ByteArray)).bind fun bt933 => ((bIRem.f k bt931.1 (⟨#[52]⟩ : ByteArray)).bind fun bt935 => ((rAAdd.f k (⟨#[49, 47, 50]⟩ : ByteArray) (⟨#[49, 47, 51]⟩ : ByteArray)).bind fun bt937 => (if (wrap64 ((wrap64 ((wrap64 (bt931.2 + bt933.2)) + bt935.2)) + bt937.2)) = 0 then (if bt931.1.toList = ([45, 50, 49] : List UInt8) then (if bt933.1.toList = ([45, 54] : List UInt8) then (if bt935.1.toList = ([51] : List UInt8) then (some (bt937.1.toList == ([53, 47, 54] : List UInt8))) else (some false)) else (some false)) else (some false)) else (some false)))))
def tPplayRats_of.f (s0_0 : Bool) (a1 : ByteArray) (a2 : Int) : Option (ByteArray × Bool) := if s0_0 = true then (if a2 = 0 then (some (a1, (a2 == 0))) else (some ((⟨#[48]⟩ : ByteArray), (a2 == 0)))) else (if a2 = 0 then (some (a1, false)) else (some ((⟨#[48]⟩ : ByteArray), false)))
def tPplayRats_add.f (k : Nat) (s0_0 : Bool) (a1 : ByteArray) (a2 : ByteArray) : Option (ByteArray × Bool) := (rAAdd.f k a1 a2).bind fun bt1027 => ((tPplayRats_of.f s0_0 bt1027.1 bt1027.2).bind fun bt1029 => (some (bt1029.1, bt1029.2)))
def tPplayRats_div.f (k : Nat) (s0_0 : Bool) (a1 : ByteArray) (a2 : ByteArray) : Option (ByteArray × Bool) := (rADiv.f k a1 a2).bind fun bt1039 => ((tPplayRats_of.f s0_0 bt1039.1 bt1039.2).bind fun bt1041 => (some (bt1041.1, bt1041.2)))
def tPplayRats_mul.f (k : Nat) (s0_0 : Bool) (a1 : ByteArray) (a2 : ByteArray) : Option (ByteArray × Bool) := (rAMul.f k a1 a2).bind fun bt1035 => ((tPplayRats_of.f s0_0 bt1035.1 bt1035.2).bind fun bt1037 => (some (bt1037.1, bt1037.2)))
def tPplayRats_order.f (k : Nat) (s0_0 : Bool) (a1 : ByteArray) (a2 : ByteArray) : Option (Int × Bool) := (rACompare.f k a1 a2).bind fun bt1043 => (if s0_0 = true then (some (bt1043.1, (bt1043.2 == 0))) else (some (bt1043.1, false)))
def tPplayRats_sub.f (k : Nat) (s0_0 : Bool) (a1 : ByteArray) (a2 : ByteArray) : Option (ByteArray × Bool) := (rASub.f k a1 a2).bind fun bt1031 => ((tPplayRats_of.f s0_0 bt1031.1 bt1031.2).bind fun bt1033 => (some (bt1033.1, bt1033.2)))
def tPplayWhole.l0 : Nat → List ByteArray → Int → Int → Option (Bool)
 | 0, _, _, _ => none
 | k + 1, x5, x6, x7 => if x7 < x6 then (if 0 ≤ x7 then (if x7 < (x5.length : Int) then (if ((rdOf ByteArray.empty x5 x7).size : Int) > 400 then (some false) else ((rECheck.f k (rdOf ByteArray.empty x5 x7)).bind fun t927 => (if t927 = 0 then (tPplayWhole.l0 k x5 x6 (wrap64 (x7 + 1))) else (some false)))) else (none)) else (none)) else (some true)
def tPplayWhole.f (k : Nat) (l0 : List ByteArray) : Option (Bool) := tPplayWhole.l0 k l0 (l0.length : Int) 0
end Go.Proofs.YtihbebbabjklkaaGreatDoor.PA
set_option linter.unusedSimpArgs false
namespace Go.Proofs.YtihbebbabjklkaaGreatDoor.Sv
theorem pow_s (B : Int) (i : Nat) : B ^ (i + 1) = B * B ^ i := by rw [Int.pow_succ, Int.mul_comm]
@[irreducible] def pw (B : Int) (i : Nat) : Int := B ^ i
theorem pw_eq (B : Int) (i : Nat) : pw B i = B ^ i := by unfold pw; rfl
theorem pw_pos {B : Int} (hB : 0 < B) (i : Nat) : 0 < pw B i := by rw [pw_eq]; exact Int.pow_pos hB
theorem pw_s (B : Int) (i : Nat) : pw B (i + 1) = B * pw B i := by rw [pw_eq, pw_eq, pow_s]
theorem pw_add (B : Int) (i j : Nat) : pw B (i + j) = pw B i * pw B j := by rw [pw_eq, pw_eq, pw_eq, Int.pow_add]
theorem pw_zero (B : Int) : pw B 0 = 1 := by rw [pw_eq, Int.pow_zero]
theorem g_ge (l : List Int) (i : Nat) (h : l.length ≤ i) : l.getD i 0 = 0 := by simp [List.getD, h]
theorem g_digs {B : Int} (hB : 0 < B) {l : List Int} (h : Digs B l) (i : Nat) : 0 ≤ l.getD i 0 ∧ l.getD i 0 < B := by
 by_cases hi : i < l.length
 ·have : l.getD i 0 = l[i] := by simp [List.getD, hi]
  rw [this]; exact h _ (List.getElem_mem hi)
 ·rw [g_ge l i (by omega)]; omega
theorem g_set (l : List Int) (i p : Nat) (v : Int) (h : i ≠ p) : (l.set i v).getD p 0 = l.getD p 0 := by
 simp [List.getD, List.getElem?_set, h]
theorem g_set_eq (l : List Int) (i : Nat) (v : Int) (h : i < l.length) : (l.set i v).getD i 0 = v := by
 simp [List.getD, List.getElem?_set, h]
theorem v_set (B : Int) (l : List Int) (i : Nat) (v : Int) (h : i < l.length) : vl B (l.set i v) = vl B l + pw B i * (v - l.getD i 0) := by
 rw [pw_eq]
 induction l generalizing i with
 | nil => simp at h
 | cons d l ih =>
  cases i with
  | zero => simp [vl]; omega
  | succ i =>
   simp only [List.set_cons_succ, vl_cons, List.getD_cons_succ]
   rw [ih i (by simpa using h), pow_s]
   grind
theorem d_set {B : Int} {l : List Int} (h : Digs B l) (i : Nat) {v : Int} (h0 : 0 ≤ v) (h1 : v < B) : Digs B (l.set i v) := by
 intro x hx
 rcases List.mem_or_eq_of_mem_set hx with hx | rfl
 ·exact h x hx
 ·exact ⟨h0, h1⟩
theorem v_take (B : Int) (l : List Int) (i : Nat) : vl B (l.take (i + 1)) = vl B (l.take i) + pw B i * l.getD i 0 := by
 rw [pw_eq]
 by_cases h : i < l.length
 ·rw [List.take_succ_eq_append_getElem h, vl_append]
  have : (l.take i).length = i := by simp; omega
  have e : l.getD i 0 = l[i] := by simp [List.getD, h]
  rw [this, e]; simp [vl]
 ·rw [g_ge l i (by omega), List.take_of_length_le (by omega), List.take_of_length_le (by omega)]; simp
theorem v_split (B : Int) (l : List Int) (i : Nat) (h : i ≤ l.length) : vl B l = vl B (l.take i) + pw B i * vl B (l.drop i) := by
 rw [pw_eq]
 conv => lhs; rw [← List.take_append_drop i l, vl_append]
 rw [List.length_take, Nat.min_eq_left h]
theorem d_take {B : Int} {l : List Int} (h : Digs B l) (i : Nat) : Digs B (l.take i) := fun x hx => h x (List.mem_of_mem_take hx)
theorem d_drop {B : Int} {l : List Int} (h : Digs B l) (i : Nat) : Digs B (l.drop i) := fun x hx => h x (List.mem_of_mem_drop hx)
theorem d_rep {B : Int} (hB : 0 < B) (n : Nat) : Digs B (List.replicate n 0) := by
 intro x hx
 have := List.eq_of_mem_replicate hx
 omega
theorem g_rep (n p : Nat) : (List.replicate n (0 : Int)).getD p 0 = 0 := by
 by_cases h : p < n
 ·simp [List.getD, List.getElem?_replicate, h]
 ·exact g_ge _ _ (by simp; omega)
theorem pw_mono {B : Int} (hB : 0 < B) {i j : Nat} (h : i ≤ j) : pw B i ≤ pw B j := by
 obtain ⟨d, rfl⟩ := Nat.exists_eq_add_of_le h
 rw [pw_add]
 have h1 := pw_pos hB i
 have h2 := pw_pos hB d
 have := Int.mul_le_mul_of_nonneg_left (show 1 ≤ pw B d by omega) (show 0 ≤ pw B i by omega)
 omega
theorem mul_step {B x y z c : Int} (hB : 0 < B) (hx : 0 ≤ x ∧ x < B) (hy : 0 ≤ y ∧ y < B) (hz : 0 ≤ z ∧ z < B) (hc : 0 ≤ c ∧ c < B) :
  0 ≤ x * y ∧ x * y ≤ (B - 1) * (B - 1) ∧ 0 ≤ z + x * y ∧ 0 ≤ c + (z + x * y) ∧ c + (z + x * y) ≤ B * B - 1 ∧
   0 ≤ (c + (z + x * y)) % B ∧ (c + (z + x * y)) % B < B ∧ 0 ≤ (c + (z + x * y)) / B ∧ (c + (z + x * y)) / B < B := by
 have h1 : 0 ≤ x * y := Int.mul_nonneg hx.1 hy.1
 have h2 : x * y ≤ (B - 1) * (B - 1) := Int.mul_le_mul (by omega) (by omega) hy.1 (by omega)
 have h3 : (B - 1) * (B - 1) = B * B - 2 * B + 1 := by grind
 have h4 : c + (z + x * y) < B * B := by omega
 refine ⟨h1, h2, by omega, by omega, by omega, Int.emod_nonneg _ (by omega), Int.emod_lt_of_pos _ hB, Int.ediv_nonneg (by omega) (by omega), Int.ediv_lt_of_lt_mul hB h4⟩
theorem mul_inv {B V I J c z x y AB vb : Int} (hv : V + I * J * c = AB + I * (x * vb)) :
  V + I * J * ((c + (z + x * y)) % B - z) + B * (I * J) * ((c + (z + x * y)) / B) = AB + I * (x * (vb + J * y)) := by
 have h := Int.emod_add_mul_ediv (c + (z + x * y)) B
 generalize (c + (z + x * y)) % B = r at *
 generalize (c + (z + x * y)) / B = s at *
 have : r = c + (z + x * y) - B * s := by omega
 subst this
 grind
theorem v_lt {B : Int} (hB : 0 < B) {l : List Int} (h : Digs B l) : vl B l < pw B l.length := by rw [pw_eq]; exact vl_lt hB h
theorem v_pos {B : Int} (hB : 0 < B) {l : List Int} (h : Digs B l) (hz : NoZ l) (hl : l ≠ []) : pw B (l.length - 1) ≤ vl B l := by rw [pw_eq]; exact vl_pos hB h hz hl
theorem v_app (B : Int) (l m : List Int) : vl B (l ++ m) = vl B l + pw B l.length * vl B m := by rw [pw_eq]; exact vl_append B l m
end Go.Proofs.YtihbebbabjklkaaGreatDoor.Sv
