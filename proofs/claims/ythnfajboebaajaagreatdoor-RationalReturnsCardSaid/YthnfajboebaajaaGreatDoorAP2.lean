import Derived.Test.YthnfajboebaajaaGreatDoorAP1
set_option linter.unusedVariables false
set_option linter.unusedSimpArgs false
namespace Go.Proofs.YthnfajboebaajaaGreatDoor.PA
open Go.RowKit Go.Proofs.WWords Go.Proofs.WMore
theorem rat_digits (n : Int) (h : Sv.nd n ≤ 100000000000000000) : rAdigits.f (Sv.txt n) = some (Sv.nd n : Int) := by
 unfold rAdigits.f
 rw [trimP_txt n h, Option.bind_some, size_abs]
theorem rat_canonical (s : ByteArray) (hs : s.size ≤ 100000000000000000) : rAcanonical.f s = some (canoB s) := by
 unfold rAcanonical.f
 rw [bi_Check s hs, Option.bind_some]
 congr 1
 rcases chk_cases s with ⟨c1, c2 | c2⟩ | ⟨c1, c2⟩ <;> rw [c1, c2] <;> rfl
theorem rat_common (n d : Int) (hn : Sv.nd n ≤ 4096) (hd : Sv.nd d ≤ 4096) : Ev (fun k => rAcommon.f k (Sv.txt n) (Sv.txt d)) (!decide (Int.gcd n d = 1)) := by
 unfold rAcommon.f
 refine Ev.bs (rat_digits n (by omega)) (Ev.pos (by omega) (Ev.bs (rat_digits d (by omega)) ?_))
 rw [decide_eq_true (show (Sv.nd d : Int) ≤ 4096 by omega)]
 refine Ev.succ ?_
 simp only [rAcommon.j0]
 refine Ev.pos trivial (Ev.bind (bi_Gcd n d hn hd) (Ev.pos rfl (Ev.of ?_)))
 congr 1
 show ((Sv.txt (Int.gcd n d : Int)).toList != [49]) = _
 rw [Bool.eq_iff_iff, bne_iff_ne, Bool.not_eq_true', decide_eq_false_iff_not, ne_eq, toList_iff]
 constructor
 ·intro h e; rw [e] at h; exact h (by rw [show ((1 : Nat) : Int) = 1 from rfl, txt1])
 ·intro h e
  have : Sv.txt (Int.gcd n d : Int) = Sv.txt 1 := ba_ext (by rw [e, txt1])
  have := Sv.txt_inj.1 this
  omega
theorem rat_j1 (n d : Int) (hn : Sv.nd n ≤ 100000000000000000) (hd : Sv.nd d ≤ 100000000000000000) : Ev (fun k => rACheck.j1 k (Sv.txt n) (Sv.txt d) false) (if (max (Sv.nd n) (Sv.nd d) : Int) > 4096 then 10 else 0) := by
 refine Ev.succ ?_
 simp only [rACheck.j1]
 refine Ev.neg (by simp) (Ev.bs (rat_digits n hn) ?_)
 by_cases h1 : (Sv.nd n : Int) > 4096
 ·refine Ev.pos h1 (Ev.of ?_)
  rw [if_pos (by omega)]
 ·refine Ev.neg h1 (Ev.bs (rat_digits d hd) ?_)
  by_cases h2 : (Sv.nd d : Int) > 4096
  ·refine Ev.pos h2 (Ev.of ?_)
   rw [if_pos (by omega)]
  ·refine Ev.neg h2 (Ev.of ?_)
   rw [if_neg (by omega)]
theorem rat_j1t (a b : ByteArray) : Ev (fun k => rACheck.j1 k a b true) 3 := by
 refine Ev.succ ?_
 simp only [rACheck.j1, if_true]
 exact Ev.of rfl
theorem txt_bt0 (n : Int) : (bt (Sv.txt n) 0 = 45) ↔ n < 0 := bt_txt0 n
theorem txt_eq1 (n : Int) : (Sv.txt n).toList = ([49] : List UInt8) ↔ n = 1 := by
 rw [toList_iff]
 constructor
 ·intro h; exact Sv.txt_inj.1 (ba_ext (by rw [h, txt1]))
 ·rintro rfl; rw [txt1]
theorem rat_Check' (s : ByteArray) (hs : s.size ≤ 10000000000) (hc : ∀ n d : Int, topS s = Sv.txt n → botS s = Sv.txt d → hasS s = true → ∃ b, Ev (fun k => rAcommon.f k (Sv.txt n) (Sv.txt d)) b ∧ (1 < d → (b = true ↔ Int.gcd n d ≠ 1))) : Ev (fun k => rACheck.f k s) (chkR s) := by
 unfold rACheck.f
 have t1 := top_size s
 have t2 := bot_size s
 refine Ev.bs (rat_split s (by omega)) (Ev.bs (rat_canonical _ (show (topS s).size ≤ _ by omega)) ?_)
 have key : ∀ b : Bool, b = (!(canoB (topS s) && canoB (botS s))) → Ev (fun k => rACheck.j0 k s (topS s) (botS s) b) (chkR s) := by
  intro b hb
  refine Ev.succ ?_
  simp only [rACheck.j0]
  have bad : rcanoB s = false → chkR s = 3 := fun h => by unfold chkR; rw [if_neg (by rw [h]; simp)]
  by_cases h1 : canoB (topS s) = true
  ·by_cases h2 : canoB (botS s) = true
   ·obtain ⟨n, hn⟩ := canoB_iff.1 h1
    obtain ⟨d, hd⟩ := canoB_iff.1 h2
    have hs1 := nd_size n
    have hs2 := nd_size d
    rw [← hn] at hs1
    rw [← hd] at hs2
    rw [hb, h1, h2]
    have good : rcanoB s = true → chkR s = (if (max (Sv.nd n) (Sv.nd d) : Int) > 4096 then 10 else 0) := fun h => by
     unfold chkR; rw [if_pos h, hn, hd, Sv.val_txt, Sv.val_txt]
    refine Ev.neg (by simp) (Ev.bs (rat_contains s) ?_)
    by_cases h : hasS s = true
    ·refine Ev.pos h ?_
     obtain ⟨b, hb1, hb2⟩ := hc n d hn hd h
     have rc : rcanoB s = true ↔ 1 < d ∧ Int.gcd n d = 1 := by
      rw [rcanoB_iff, rcano_iff, hn, hd, Sv.val_txt, Sv.val_txt]
      exact ⟨fun e => (e.2 h).2, fun e => ⟨⟨n, rfl⟩, fun _ => ⟨⟨d, rfl⟩, e⟩⟩⟩
     have nrc : ¬ (1 < d ∧ Int.gcd n d = 1) → rcanoB s = false := fun e => by
      cases hq : rcanoB s
      ·rfl
      ·exact absurd (rc.1 hq) e
     rw [hn, hd]
     by_cases d0 : d = 0
     ·refine Ev.pos ((txt_eq0 d).2 d0) ((rat_j1t _ _).eq ?_)
      rw [bad (nrc (by omega))]
     ·refine Ev.neg (fun e => d0 ((txt_eq0 d).1 e)) ?_
      by_cases d1 : d = 1
      ·refine Ev.pos ((txt_eq1 d).2 d1) ((rat_j1t _ _).eq ?_)
       rw [bad (nrc (by omega))]
      ·refine Ev.neg (fun e => d1 ((txt_eq1 d).1 e)) (Ev.pos (by have := txt_size_pos d; omega) ?_)
       by_cases dn : d < 0
       ·refine Ev.pos ((txt_bt0 d).2 dn) ((rat_j1t _ _).eq ?_)
        rw [bad (nrc (by omega))]
       ·refine Ev.neg (fun e => dn ((txt_bt0 d).1 e)) (Ev.bind hb1 ?_)
        have hb3 := hb2 (by omega)
        cases hbb : b
        ·have hg : Int.gcd n d = 1 := by
          have := mt hb3.2 (by rw [hbb]; simp)
          simpa using this
         rw [good (rc.2 ⟨by omega, hg⟩)]
         exact rat_j1 n d (by omega) (by omega)
        ·have hg := hb3.1 hbb
         refine (rat_j1t _ _).eq ?_
         rw [bad (nrc (fun e => hg e.2))]
    ·refine Ev.neg h ?_
     have rc : rcanoB s = true := by rw [rcanoB_iff, rcano_iff, hn]; exact ⟨⟨n, rfl⟩, fun e => absurd e h⟩
     rw [good rc, hn, hd]
     exact rat_j1 n d (by omega) (by omega)
   ·have hf : canoB (botS s) = false := by simpa using h2
    rw [hb, h1, hf]
    refine Ev.pos rfl (Ev.of ?_)
    rw [bad]
    by_cases h : hasS s = true
    ·cases hq : rcanoB s
     ·rfl
     ·have := ((rcano_iff.1 (rcanoB_iff.1 hq)).2 h).1
      rw [← canoB_iff, hf] at this; cases this
    ·exfalso
     apply h2
     unfold botS
     rw [if_neg h, ← txt1]; exact canoB_txt 1
  ·have hf : canoB (topS s) = false := by simpa using h1
   rw [hb, hf]
   refine Ev.pos rfl (Ev.of ?_)
   rw [bad]
   cases hq : rcanoB s
   ·rfl
   ·have := (rcano_iff.1 (rcanoB_iff.1 hq)).1
    rw [← canoB_iff, hf] at this; cases this
 by_cases h1 : canoB (topS s) = true
 ·refine Ev.pos h1 (Ev.bs (rat_canonical _ (show (botS s).size ≤ _ by omega)) (key _ ?_))
  rw [h1]; rfl
 ·refine Ev.neg h1 (key _ ?_)
  rw [show canoB (topS s) = false by simpa using h1]; rfl
theorem rat_Check (s : ByteArray) (hs : s.size ≤ 4090) : Ev (fun k => rACheck.f k s) (chkR s) := by
 refine rat_Check' s (by omega) fun n d hn hd h => ?_
 have t1 := top_size s
 have t2 := bot_size s
 have h1 := nd_size n
 have h2 := nd_size d
 rw [← hn] at h1
 rw [← hd] at h2
 refine ⟨_, rat_common n d (by omega) (by omega), fun _ => ?_⟩
 simp
theorem rtxt_size (q : Rat) : (Sv.rtxt q).size ≤ 2 * ndR q + 2 := by
 rcases rtxt_cases q with ⟨h, e⟩ | ⟨h, e⟩
 ·rw [e, Sv.txt_size]
  unfold ndR
  split <;> omega
 ·rw [← sz_list, e, List.length_append, List.length_cons, txtL_len, txtL_len, Sv.txt_size, Sv.txt_size]
  unfold ndR
  split <;> split <;> omega
theorem rat_CheckQ (q : Rat) (h : ndR q ≤ 4096) : Ev (fun k => rACheck.f k (Sv.rtxt q)) 0 := by
 have hs := rtxt_size q
 refine (rat_Check' _ (by omega) fun n d hn hd _ => ?_).eq (chkR_small h)
 rw [topS_rtxt] at hn
 rw [botS_rtxt] at hd
 have e1 := Sv.txt_inj.1 hn
 have e2 := Sv.txt_inj.1 hd
 unfold ndR at h
 refine ⟨_, rat_common n d (by rw [← e1]; omega) (by rw [← e2]; omega), fun _ => ?_⟩
 simp
theorem rtxt_divInt (m n : Int) (hn : n ≠ 0) : Sv.rtxt (Rat.divInt m n) = if ((n.natAbs / n.gcd m : Nat) : Int) = 1 then Sv.txt (n.sign * m / n.gcd m) else Sv.txt (n.sign * m / n.gcd m) ++ ⟨#[47]⟩ ++ Sv.txt ((n.natAbs / n.gcd m : Nat) : Int) := by
 unfold Sv.rtxt
 rw [Rat.num_divInt, Rat.den_divInt, if_neg hn]
 by_cases h : n.natAbs / n.gcd m = 1
 ·rw [if_pos h, if_pos (by omega)]
 ·rw [if_neg h, if_neg (by omega)]
theorem gcd_pos {m n : Int} (hn : n ≠ 0) : 0 < Int.gcd n m := by
 rcases Nat.eq_zero_or_pos (Int.gcd n m) with h | h
 ·exact absurd (Int.gcd_eq_zero_iff.1 h).1 hn
 ·exact h
theorem fdiv_pos (m : Int) {g : Nat} : m.fdiv (g : Int) = m / (g : Int) := Int.fdiv_eq_ediv_of_nonneg m (by omega)
theorem join_text (p q : Int) (hp : Sv.nd p ≤ 1000000000000) (hq : Sv.nd q ≤ 1000000000000) : (Sv.txt p).size + 1 ≤ 9223372036854775807 ∧ (Sv.txt p ++ (⟨#[47]⟩ : ByteArray)).size + (Sv.txt q).size ≤ 9223372036854775807 := by
 have h1 := Sv.txt_size p
 have h2 := Sv.txt_size q
 have h3 : (Sv.txt p ++ (⟨#[47]⟩ : ByteArray)).size = (Sv.txt p).size + 1 := by rw [ByteArray.size_append]; rfl
 rw [h3]
 split at h1 <;> split at h2 <;> omega
theorem whole_j0 (m n : Int) (g : Int) (hn : n ≠ 0) (hm : Sv.nd m ≤ 4096) (hnd : Sv.nd n ≤ 4096) (hg0 : g ≠ 0) (hg : Sv.nd g ≤ 4096) (e1 : m.fdiv g = n.sign * m / (n.gcd m : Int)) (e2 : n.fdiv g = ((n.natAbs / n.gcd m : Nat) : Int)) : Ev (fun k => rAwhole.j0 k (Sv.txt m) (Sv.txt n) (Sv.txt g)) (Sv.rtxt (Rat.divInt m n), 0) := by
 refine Ev.succ ?_
 simp only [rAwhole.j0]
 have d1 := nd_fdiv m g hg0
 have d2 := nd_fdiv n g hg0
 refine Ev.bind (bi_Quo m g hg0 hm hg) (Ev.pos rfl (Ev.bind (bi_Quo n g hg0 hnd hg) (Ev.pos rfl ?_)))
 have j := join_text (m.fdiv g) (n.fdiv g) (by omega) (by omega)
 rw [rtxt_divInt m n hn, ← e1, ← e2]
 dsimp only
 by_cases h : n.fdiv g = 1
 ·rw [if_pos h]
  exact Ev.pos ((txt_eq1 _).2 h) (Ev.of rfl)
 ·rw [if_neg h]
  exact Ev.neg (fun e => h ((txt_eq1 _).1 e)) (Ev.pos j.1 (Ev.pos j.2 (Ev.of rfl)))
theorem rat_whole (m n : Int) (hn : n ≠ 0) (hm : Sv.nd m ≤ 4096) (hnd : Sv.nd n ≤ 4096) : Ev (fun k => rAwhole.f k (Sv.txt m) (Sv.txt n)) (Sv.rtxt (Rat.divInt m n), 0) := by
 unfold rAwhole.f
 have hg : 0 < Int.gcd m n := by rw [Int.gcd_comm]; exact gcd_pos (by omega)
 have hgl : Sv.nd (Int.gcd m n : Int) ≤ 4096 := by
  refine Nat.le_trans (nd_mono ?_) hnd
  rw [Int.natAbs_natCast]
  exact Nat.gcd_le_right _ (by omega)
 have dn : (n.natAbs : Int) / (Int.gcd m n : Int) = ((n.natAbs / Int.gcd m n : Nat) : Int) := (Int.natCast_ediv _ _).symm
 refine Ev.bind (bi_Gcd m n hm hnd) (Ev.pos rfl (Ev.bind (bi_Sign n hnd) ?_))
 dsimp only
 by_cases h : n < 0
 ·refine Ev.pos (Int.sign_neg_iff.2 h) (Ev.bind (bi_Neg _ hgl) ?_)
  refine whole_j0 m n (-(Int.gcd m n : Int)) hn hm hnd (by omega) (by rw [Sv.nd_neg]; exact hgl) ?_ ?_
  ·rw [Int.gcd_comm n m, Int.sign_eq_neg_one_of_neg h, ← Int.neg_eq_neg_one_mul, ← Int.neg_fdiv_neg, Int.neg_neg, fdiv_pos]
  ·rw [Int.gcd_comm n m, ← Int.neg_fdiv_neg, Int.neg_neg, fdiv_pos, ← dn, show ((n.natAbs : Nat) : Int) = -n by omega]
 ·refine Ev.neg (fun e => h (Int.sign_neg_iff.1 e)) ?_
  refine whole_j0 m n (Int.gcd m n : Int) hn hm hnd (by omega) hgl ?_ ?_
  ·rw [Int.gcd_comm n m, Int.sign_eq_one_of_pos (by omega), Int.one_mul, fdiv_pos]
  ·rw [Int.gcd_comm n m, fdiv_pos, ← dn, show ((n.natAbs : Nat) : Int) = n by omega]
set_option linter.unusedVariables false
set_option linter.unusedSimpArgs false
structure Okt (s : ByteArray) : Prop where
 size : s.size ≤ 10000
 small : s.size ≤ 4090 ∨ ∃ q, s = Sv.rtxt q ∧ ndR q ≤ 4096
theorem Okt.of {s : ByteArray} (h : s.size ≤ 4090) : Okt s := ⟨by omega, .inl h⟩
theorem Okt.q {q : Rat} (h : ndR q ≤ 4096) : Okt (Sv.rtxt q) := ⟨by have := rtxt_size q; omega, .inr ⟨q, rfl, h⟩⟩
theorem Okt.rat {s : ByteArray} (h : Okt s) : Ev (fun k => rACheck.f k s) (chkR s) := by
 rcases h.small with h | ⟨q, rfl, hq⟩
 ·exact rat_Check s h
 ·exact (rat_CheckQ q hq).eq (chkR_small hq).symm
section one
variable {s : ByteArray} (hs : Okt s)
include hs
theorem rat_Num : Ev (fun k => rANum.f k s) (if chkR s = 0 then (topS s, 0) else (⟨#[]⟩, chkR s)) := by
 unfold rANum.f
 refine Ev.bind hs.rat ?_
 by_cases h : chkR s = 0
 ·refine Ev.pos h ?_
  rw [if_pos h]
  exact Ev.bs (rat_split s (by have := hs.size; omega)) (Ev.of rfl)
 ·refine Ev.neg h ?_
  rw [if_neg h]
  exact Ev.of rfl
theorem rat_Den : Ev (fun k => rADen.f k s) (if chkR s = 0 then (botS s, 0) else (⟨#[]⟩, chkR s)) := by
 unfold rADen.f
 refine Ev.bind hs.rat ?_
 by_cases h : chkR s = 0
 ·refine Ev.pos h ?_
  rw [if_pos h]
  exact Ev.bs (rat_split s (by have := hs.size; omega)) (Ev.of rfl)
 ·refine Ev.neg h ?_
  rw [if_neg h]
  exact Ev.of rfl
end one
theorem txt_negL {n : Int} (h : 0 < n) : Sv.txtL (-n) = 45 :: Sv.txtL n := by
 unfold Sv.txtL
 rw [if_pos (by omega), if_neg (by omega), Int.natAbs_neg]
theorem rtxt_neg {q : Rat} (h : 0 < q.num) : Sv.rtxt (-q) = ⟨#[45]⟩ ++ Sv.rtxt q := by
 apply ba_ext
 rw [ba_append_toList, Sv.rtxt_toList, Sv.rtxt_toList, Rat.neg_num, Rat.neg_den, txt_negL h]
 split <;> rfl
theorem rtxt_neg' {q : Rat} (h : q.num < 0) : Sv.rtxt q = ⟨#[45]⟩ ++ Sv.rtxt (-q) := by
 have := rtxt_neg (q := -q) (by rw [Rat.neg_num]; omega)
 rw [Rat.neg_neg] at this
 exact this
theorem ext_cons (s : ByteArray) : ((⟨#[45]⟩ : ByteArray) ++ s).extract 1 ((⟨#[45]⟩ : ByteArray) ++ s).size = s := by
 apply ba_ext
 rw [ext_list, ba_append_toList, ByteArray.size_append]
 show (List.drop 1 (45 :: s.data.toList)).take _ = _
 rw [List.drop_one, List.tail_cons, List.take_of_length_le]
 rw [sz_list]
 show s.size ≤ 1 + s.size - 1
 omega
theorem rtxt_head (q : Rat) : 0 < (Sv.rtxt q).size ∧ (bt (Sv.rtxt q) 0 = 45 ↔ q.num < 0) := by
 by_cases h : q.num < 0
 ·rw [rtxt_neg' h]
  refine ⟨?_, fun _ => h, fun _ => ?_⟩
  ·rw [ByteArray.size_append]; show 0 < 1 + _; omega
  ·have := bt_nat ((⟨#[45]⟩ : ByteArray) ++ Sv.rtxt (-q)) 0 (by rw [ByteArray.size_append]; show 0 < 1 + _; omega)
   rw [show ((0 : Nat) : Int) = 0 from rfl] at this
   rw [this]
   simp only [ba_append_toList]
   rfl
 ·have hne : (Sv.rtxt q).data.toList.head? ≠ some 45 ∧ (Sv.rtxt q).data.toList ≠ [] := by
   rw [Sv.rtxt_toList]
   have h1 : (Sv.txtL q.num).head? ≠ some 45 := fun e => h ((head45 q.num).1 e)
   have h2 : Sv.txtL q.num ≠ [] := by
    intro e
    have := txt_size_pos q.num
    rw [← txtL_len, e] at this
    simp at this
   split
   ·exact ⟨h1, h2⟩
   ·cases hl : Sv.txtL q.num with
    | nil => exact absurd hl h2
    | cons c m => rw [hl] at h1; exact ⟨by simpa using h1, by simp⟩
  have hsz : 0 < (Sv.rtxt q).size := by rw [← sz_list]; exact List.length_pos_iff.2 hne.2
  refine ⟨hsz, fun e => ?_, fun e => absurd e h⟩
  exfalso
  have := bt_nat (Sv.rtxt q) 0 hsz
  rw [show ((0 : Nat) : Int) = 0 from rfl, e] at this
  have h3 : (Sv.rtxt q).data.toList[0]'(by rw [sz_list]; exact hsz) = 45 := by
   apply u8_45.1; exact this.symm
  apply hne.1
  rw [List.head?_eq_getElem?, List.getElem?_eq_getElem (by rw [sz_list]; exact hsz), h3]
theorem rtxt_eq0 (q : Rat) : (Sv.rtxt q).toList = ([48] : List UInt8) ↔ q = 0 := by
 rw [toList_iff]
 constructor
 ·intro h
  have : Sv.rtxt q = Sv.rtxt 0 := by
   apply ba_ext
   rw [h]; rfl
  exact Sv.rtxt_inj.1 this
 ·rintro rfl; rfl
theorem rat_Neg (q : Rat) (h : ndR q ≤ 4096) : Ev (fun k => rANeg.f k (Sv.rtxt q)) (Sv.rtxt (-q), 0) := by
 unfold rANeg.f
 have hh := rtxt_head q
 have hsz := rtxt_size q
 refine Ev.bind (rat_CheckQ q h) (Ev.pos rfl ?_)
 by_cases h0 : q = 0
 ·subst h0
  exact Ev.pos ((rtxt_eq0 0).2 rfl) (Ev.of rfl)
 ·refine Ev.neg (fun e => h0 ((rtxt_eq0 q).1 e)) (Ev.pos (by omega) ?_)
  have hn0 : q.num ≠ 0 := fun e => h0 (Rat.num_eq_zero.1 e)
  by_cases hn : q.num < 0
  ·refine Ev.pos (hh.2.2 hn) (Ev.pos (by omega) (Ev.of ?_))
   congr 2
   conv => lhs; rw [rtxt_neg' hn]
   exact ext_cons _
  ·refine Ev.neg (fun e => hn (hh.2.1 e)) (Ev.pos (by omega) (Ev.of ?_))
   rw [rtxt_neg (by omega)]
theorem floor_fdiv (q : Rat) : q.num.fdiv (q.den : Int) = q.floor := by rw [Rat.floor_def, fdiv_pos]
theorem ndR_num {q : Rat} (h : ndR q ≤ 4096) : Sv.nd q.num ≤ 4096 := by unfold ndR at h; omega
theorem ndR_den {q : Rat} (h : ndR q ≤ 4096) : Sv.nd (q.den : Int) ≤ 4096 := by unfold ndR at h; omega
theorem den_ne (q : Rat) : (q.den : Int) ≠ 0 := by have := q.den_nz; omega
theorem ndR_neg (q : Rat) : ndR (-q) = ndR q := by unfold ndR; rw [Rat.neg_num, Rat.neg_den, Sv.nd_neg]
theorem rat_Floor (q : Rat) (h : ndR q ≤ 4096) : Ev (fun k => rAFloor.f k (Sv.rtxt q)) (Sv.txt q.floor, 0) := by
 unfold rAFloor.f
 have hsz := rtxt_size q
 refine Ev.bind (rat_CheckQ q h) (Ev.pos rfl (Ev.bs (rat_split _ (by omega)) ?_))
 rw [topS_rtxt, botS_rtxt, ← floor_fdiv]
 exact Ev.bind (bi_Quo _ _ (den_ne q) (ndR_num h) (ndR_den h)) (Ev.of rfl)
theorem nd_floor1 (q : Rat) : Sv.nd q.floor ≤ Sv.nd q.num := by
 refine nd_mono ?_
 rw [Rat.floor_def]
 have hd : (1 : Int) ≤ q.den := by have := q.den_nz; omega
 by_cases hn : 0 ≤ q.num
 ·have a := Int.ediv_nonneg hn (show (0 : Int) ≤ q.den by omega)
  have b := Int.ediv_le_self (q.den : Int) hn
  omega
 ·have a := Int.ediv_neg_of_neg_of_pos (show q.num < 0 by omega) (show (0 : Int) < q.den by omega)
  have b : q.num ≤ q.num / (q.den : Int) := by
   rw [Int.le_ediv_iff_mul_le (by omega)]
   have := Int.mul_nonneg (show 0 ≤ -q.num by omega) (show 0 ≤ (q.den : Int) - 1 by omega)
   rw [Int.mul_sub, Int.neg_mul, Int.mul_one] at this
   omega
  omega
theorem nd_floor {q : Rat} (h : ndR q ≤ 4096) : Sv.nd q.floor ≤ 4096 := Nat.le_trans (nd_floor1 q) (ndR_num h)
theorem rat_Ceil (q : Rat) (h : ndR q ≤ 4096) : Ev (fun k => rACeil.f k (Sv.rtxt q)) (Sv.txt q.ceil, 0) := by
 unfold rACeil.f
 refine Ev.bind (rat_Neg q h) (Ev.pos rfl (Ev.bind (rat_Floor (-q) (by rw [ndR_neg]; exact h)) (Ev.pos rfl ?_)))
 rw [Rat.ceil_eq_neg_floor_neg]
 exact Ev.bind (bi_Neg _ (nd_floor (by rw [ndR_neg]; exact h))) (Ev.of rfl)
section two
variable {s t : ByteArray} (hs : Okt s) (ht : Okt t)
include hs ht
end two
theorem rat_pair (p q : Rat) (hp : ndR p ≤ 4096) (hq : ndR q ≤ 4096) : Ev (fun k => rAnewPair.f k (Sv.rtxt p) (Sv.rtxt q)) (Sv.txt p.num, Sv.txt p.den, Sv.txt q.num, Sv.txt q.den, 0) := by
 unfold rAnewPair.f
 have s1 := rtxt_size p
 have s2 := rtxt_size q
 refine Ev.bind (rat_CheckQ p hp) (Ev.pos rfl (Ev.bind (rat_CheckQ q hq) (Ev.pos rfl (Ev.bs (rat_split _ (by omega)) (Ev.bs (rat_split _ (by omega)) (Ev.of ?_))))))
 rw [topS_rtxt, botS_rtxt, topS_rtxt, botS_rtxt]
theorem rat_both (a b c d : Int) (ha : Sv.nd a ≤ 4096) (hb : Sv.nd b ≤ 4096) (hc : Sv.nd c ≤ 4096) (hd : Sv.nd d ≤ 4096) : Ev (fun k => rAboth.f k (Sv.txt a) (Sv.txt b) (Sv.txt c) (Sv.txt d)) (if Sv.nd (a * b) ≤ 4096 then (Sv.txt (a * b), (lim (c * d)).1, (lim (c * d)).2) else (⟨#[]⟩, ⟨#[]⟩, 10)) := by
 unfold rAboth.f
 have h1 := bi_Mul a b ha hb
 by_cases h : Sv.nd (a * b) ≤ 4096
 ·rw [lim_small h] at h1
  rw [if_pos h]
  exact Ev.bind h1 (Ev.pos rfl (Ev.bind (bi_Mul c d hc hd) (Ev.of rfl)))
 ·unfold lim at h1
  rw [if_neg h] at h1
  rw [if_neg h]
  exact Ev.bind h1 (Ev.neg (show ¬ ((10 : Int) = 0) by decide) (Ev.of rfl))
def cmpR (p q : Rat) : Int × Int := if Sv.nd (p.num * q.den) ≤ 4096 ∧ Sv.nd (q.num * p.den) ≤ 4096 then ((p.num * q.den - q.num * p.den).sign, 0) else (0, 10)
theorem rat_Compare (p q : Rat) (hp : ndR p ≤ 4096) (hq : ndR q ≤ 4096) : Ev (fun k => rACompare.f k (Sv.rtxt p) (Sv.rtxt q)) (cmpR p q) := by
 unfold rACompare.f cmpR
 have hb := rat_both p.num q.den q.num p.den (ndR_num hp) (ndR_den hq) (ndR_num hq) (ndR_den hp)
 refine Ev.bind (rat_pair p q hp hq) (Ev.pos rfl ?_)
 by_cases h1 : Sv.nd (p.num * q.den) ≤ 4096
 ·rw [if_pos h1] at hb
  by_cases h2 : Sv.nd (q.num * p.den) ≤ 4096
  ·rw [lim_small h2] at hb
   rw [if_pos ⟨h1, h2⟩]
   exact Ev.bind hb (Ev.pos rfl (Ev.bind (bi_Compare _ _ h1 h2) (Ev.of rfl)))
  ·unfold lim at hb
   rw [if_neg h2] at hb
   rw [if_neg (fun e => h2 e.2)]
   exact Ev.bind hb (Ev.neg (show ¬ ((10 : Int) = 0) by decide) (Ev.of rfl))
 ·rw [if_neg h1] at hb
  rw [if_neg (fun e => h1 e.1)]
  exact Ev.bind hb (Ev.neg (show ¬ ((10 : Int) = 0) by decide) (Ev.of rfl))
section tops
variable {p : Rat} (hp : ndR p ≤ 4096)
include hp
end tops
theorem add_divInt (p q : Rat) : Rat.divInt (p.num * q.den + q.num * p.den) (p.den * q.den) = p + q := by
 rw [Rat.add_def', show ((p.den : Int) * (q.den : Int)) = ((p.den * q.den : Nat) : Int) from (Int.natCast_mul _ _).symm, Rat.divInt_ofNat]
theorem div_divInt (p q : Rat) : Rat.divInt (p.num * q.den) (p.den * q.num) = p / q := by
 conv => rhs; rw [← Rat.num_divInt_den p, ← Rat.num_divInt_den q]
 rw [Rat.div_def, Rat.inv_divInt, Rat.divInt_mul_divInt]
def addR (p q : Rat) : ByteArray × Int := if Sv.nd (p.num * q.den) ≤ 4096 ∧ Sv.nd (q.num * p.den) ≤ 4096 ∧ Sv.nd (p.num * q.den + q.num * p.den) ≤ 4096 ∧ Sv.nd ((p.den : Int) * q.den) ≤ 4096 then (Sv.rtxt (p + q), 0) else (⟨#[]⟩, 10)
def divR (p q : Rat) : ByteArray × Int := if q = 0 then (⟨#[]⟩, 19) else if Sv.nd (p.num * q.den) ≤ 4096 ∧ Sv.nd (p.den * q.num) ≤ 4096 then (Sv.rtxt (p / q), 0) else (⟨#[]⟩, 10)
theorem den_mul_ne (p q : Rat) : (p.den : Int) * (q.den : Int) ≠ 0 := Int.mul_ne_zero (den_ne p) (den_ne q)
theorem calc_fin {op : Nat → ByteArray → ByteArray → ByteArray → ByteArray → Option (ByteArray × ByteArray × Int)} (p q : Rat) (hp : ndR p ≤ 4096) (hq : ndR q ≤ 4096) (x : ByteArray × ByteArray × Int) (r : ByteArray × Int)
  (hop : Ev (fun k => op k (Sv.txt p.num) (Sv.txt p.den) (Sv.txt q.num) (Sv.txt q.den)) x) (h : (x.2.2 ≠ 0 ∧ r = (⟨#[]⟩, x.2.2)) ∨ (x.2.2 = 0 ∧ Ev (fun k => rAwhole.f k x.1 x.2.1) r)) : Ev (fun k => calcF (op k) k (Sv.rtxt p) (Sv.rtxt q)) r := by
 unfold calcF
 refine Ev.bind (rat_pair p q hp hq) (Ev.pos rfl (Ev.bind hop ?_))
 rcases h with ⟨h1, rfl⟩ | ⟨h1, h2⟩
 ·exact Ev.neg h1 (Ev.of rfl)
 ·exact Ev.pos h1 h2
theorem ten_ne : ¬ ((10 : Int) = 0) := by decide
theorem rat_Add (p q : Rat) (hp : ndR p ≤ 4096) (hq : ndR q ≤ 4096) : Ev (fun k => rAAdd.f k (Sv.rtxt p) (Sv.rtxt q)) (addR p q) := by
 unfold rAAdd.f rAcalculate.f addR
 refine Ev.bind (x := addR p q) (Ev.pos rfl ?_) (Ev.of rfl)
 have hb := rat_both p.num q.den q.num p.den (ndR_num hp) (ndR_den hq) (ndR_num hq) (ndR_den hp)
 have hm := bi_Mul p.den q.den (ndR_den hp) (ndR_den hq)
 unfold addR
 by_cases h1 : Sv.nd (p.num * q.den) ≤ 4096
 ·rw [if_pos h1] at hb
  by_cases h2 : Sv.nd (q.num * p.den) ≤ 4096
  ·rw [lim_small h2] at hb
   have ha := bi_Add _ _ h1 h2
   by_cases h3 : Sv.nd (p.num * q.den + q.num * p.den) ≤ 4096
   ·rw [lim_small h3] at ha
    by_cases h4 : Sv.nd ((p.den : Int) * q.den) ≤ 4096
    ·rw [lim_small h4] at hm
     rw [if_pos ⟨h1, h2, h3, h4⟩, ← add_divInt]
     refine calc_fin p q hp hq (Sv.txt _, Sv.txt _, 0) _ ?_ (.inr ⟨rfl, rat_whole _ _ (den_mul_ne p q) h3 h4⟩)
     unfold rAaddop.f
     exact Ev.bind hb (Ev.pos rfl (Ev.bind ha (Ev.pos rfl (Ev.bind hm (Ev.of rfl)))))
    ·unfold lim at hm
     rw [if_neg h4] at hm
     rw [if_neg (fun e => h4 e.2.2.2)]
     refine calc_fin p q hp hq (Sv.txt (p.num * q.den + q.num * p.den), ⟨#[]⟩, 10) _ ?_ (.inl ⟨ten_ne, rfl⟩)
     unfold rAaddop.f
     exact Ev.bind hb (Ev.pos rfl (Ev.bind ha (Ev.pos rfl (Ev.bind hm (Ev.of rfl)))))
   ·unfold lim at ha
    rw [if_neg h3] at ha
    rw [if_neg (fun e => h3 e.2.2.1)]
    refine calc_fin p q hp hq (⟨#[]⟩, ⟨#[]⟩, 10) _ ?_ (.inl ⟨ten_ne, rfl⟩)
    unfold rAaddop.f
    exact Ev.bind hb (Ev.pos rfl (Ev.bind ha (Ev.neg ten_ne (Ev.of rfl))))
  ·unfold lim at hb
   rw [if_neg h2] at hb
   rw [if_neg (fun e => h2 e.2.1)]
   refine calc_fin p q hp hq (⟨#[]⟩, ⟨#[]⟩, 10) _ ?_ (.inl ⟨ten_ne, rfl⟩)
   unfold rAaddop.f
   exact Ev.bind hb (Ev.neg ten_ne (Ev.of rfl))
 ·rw [if_neg h1] at hb
  rw [if_neg (fun e => h1 e.1)]
  refine calc_fin p q hp hq (⟨#[]⟩, ⟨#[]⟩, 10) _ ?_ (.inl ⟨ten_ne, rfl⟩)
  unfold rAaddop.f
  exact Ev.bind hb (Ev.neg ten_ne (Ev.of rfl))
theorem rat_Div (p q : Rat) (hp : ndR p ≤ 4096) (hq : ndR q ≤ 4096) : Ev (fun k => rADiv.f k (Sv.rtxt p) (Sv.rtxt q)) (divR p q) := by
 unfold rADiv.f rAcalculate.f
 refine Ev.bind (x := divR p q) (Ev.neg (by decide) (Ev.neg (by decide) (Ev.neg (by decide) (Ev.pos rfl ?_)))) (Ev.of rfl)
 unfold divR
 by_cases h0 : q = 0
 ·subst h0
  rw [if_pos rfl]
  refine calc_fin p 0 hp hq (⟨#[]⟩, ⟨#[]⟩, 19) _ ?_ (.inl ⟨show ¬ ((19 : Int) = 0) by decide, rfl⟩)
  unfold rAoperations_2.f
  exact Ev.pos ((txt_eq0 _).2 rfl) (Ev.of rfl)
 ·rw [if_neg h0]
  have hn0 : q.num ≠ 0 := fun e => h0 (Rat.num_eq_zero.1 e)
  have hx : ¬ (Sv.txt q.num).toList = ([48] : List UInt8) := fun e => hn0 ((txt_eq0 _).1 e)
  have hb := rat_both p.num q.den p.den q.num (ndR_num hp) (ndR_den hq) (ndR_den hp) (ndR_num hq)
  by_cases h1 : Sv.nd (p.num * q.den) ≤ 4096
  ·rw [if_pos h1] at hb
   by_cases h2 : Sv.nd (p.den * q.num) ≤ 4096
   ·rw [lim_small h2] at hb
    rw [if_pos ⟨h1, h2⟩, ← div_divInt]
    refine calc_fin p q hp hq (Sv.txt _, Sv.txt _, 0) _ ?_ (.inr ⟨rfl, rat_whole _ _ (Int.mul_ne_zero (den_ne p) hn0) h1 h2⟩)
    unfold rAoperations_2.f
    exact Ev.neg hx (Ev.bind hb (Ev.of rfl))
   ·unfold lim at hb
    rw [if_neg h2] at hb
    rw [if_neg (fun e => h2 e.2)]
    refine calc_fin p q hp hq (Sv.txt (p.num * q.den), ⟨#[]⟩, 10) _ ?_ (.inl ⟨ten_ne, rfl⟩)
    unfold rAoperations_2.f
    exact Ev.neg hx (Ev.bind hb (Ev.of rfl))
  ·rw [if_neg h1] at hb
   rw [if_neg (fun e => h1 e.1)]
   refine calc_fin p q hp hq (⟨#[]⟩, ⟨#[]⟩, 10) _ ?_ (.inl ⟨ten_ne, rfl⟩)
   unfold rAoperations_2.f
   exact Ev.neg hx (Ev.bind hb (Ev.of rfl))
set_option linter.unusedVariables false
set_option linter.unusedSimpArgs false
open Go.RowKit Go.Proofs.WWords Go.Proofs.WMore
theorem nd_add (m n : Int) : Sv.nd (m + n) ≤ max (Sv.nd m) (Sv.nd n) + 1 := by
 refine Sv.nd_le (by omega) ?_
 have h1 := natAbs_lt_nd m
 have h2 := natAbs_lt_nd n
 have h3 := Nat.pow_le_pow_right (n := 10) (by omega) (show Sv.nd m ≤ max (Sv.nd m) (Sv.nd n) by omega)
 have h4 := Nat.pow_le_pow_right (n := 10) (by omega) (show Sv.nd n ≤ max (Sv.nd m) (Sv.nd n) by omega)
 rw [Nat.pow_succ]
 omega
section any
variable {s t : ByteArray} (hs : Okt s) (ht : Okt t)
include hs ht
end any
section one2
variable {s : ByteArray} (hs : Okt s)
include hs
end one2
theorem rat_Of (m n : Int) (h0 : n ≠ 0) (hm : Sv.nd m ≤ 4096) (hn : Sv.nd n ≤ 4096) : Ev (fun k => rAOf.f k (Sv.txt m) (Sv.txt n)) (Sv.rtxt (Rat.divInt m n), 0) := by
 unfold rAOf.f
 have s1 := small_size hm
 have s2 := small_size hn
 exact Ev.bs (bi_Check _ (by omega)) (Ev.pos (chkI_small hm) (Ev.bs (bi_Check _ (by omega)) (Ev.pos (chkI_small hn) (Ev.neg (fun e => h0 ((txt_eq0 n).1 e)) (Ev.bind (rat_whole m n h0 hm hn) (Ev.of rfl))))))
theorem rat_Of0 (m : Int) (hm : Sv.nd m ≤ 4096) : Ev (fun k => rAOf.f k (Sv.txt m) (Sv.txt 0)) (⟨#[]⟩, 19) := by
 unfold rAOf.f
 have s1 := small_size hm
 have s2 := small_size nd0
 exact Ev.bs (bi_Check _ (by omega)) (Ev.pos (chkI_small hm) (Ev.bs (bi_Check _ (by omega)) (Ev.pos (chkI_small nd0) (Ev.pos ((txt_eq0 0).2 rfl) (Ev.of rfl)))))
set_option linter.unusedVariables false
set_option linter.unusedSimpArgs false
open Go.RowKit Go.Proofs.WWords Go.Proofs.WMore
theorem ndR_divInt (m n : Int) (hn : n ≠ 0) : ndR (Rat.divInt m n) ≤ max (Sv.nd m) (Sv.nd n) := by
 unfold ndR
 rw [Rat.num_divInt, Rat.den_divInt, if_neg hn]
 have h1 : Sv.nd (n.sign * m / (n.gcd m : Int)) ≤ Sv.nd m := by
  refine nd_mono ?_
  rw [Int.natAbs_ediv_of_dvd (Int.dvd_mul_of_dvd_right (Int.gcd_dvd_right ..)), Int.natAbs_mul, Int.natAbs_sign_of_ne_zero hn, Nat.one_mul]
  exact Nat.div_le_self _ _
 have h2 : Sv.nd ((n.natAbs / n.gcd m : Nat) : Int) ≤ Sv.nd n := by
  refine nd_mono ?_
  rw [Int.natAbs_natCast]
  exact Nat.div_le_self _ _
 omega
theorem ndR_nd (q : Rat) : Sv.nd q.num ≤ ndR q ∧ Sv.nd (q.den : Int) ≤ ndR q := by unfold ndR; omega
section small
variable (p q : Rat) (h : ndR p + ndR q + 1 ≤ 4096)
include h
theorem addE : Ev (fun k => rAAdd.f k (Sv.rtxt p) (Sv.rtxt q)) (Sv.rtxt (p + q), 0) := by
 have h1 := ndR_nd p
 have h2 := ndR_nd q
 have b1 := nd_mul p.num q.den
 have b2 := nd_mul q.num p.den
 have b3 := nd_mul p.den q.den
 have b4 := nd_add (p.num * q.den) (q.num * p.den)
 exact (rat_Add p q (by omega) (by omega)).eq (if_pos ⟨by omega, by omega, by omega, by omega⟩)
theorem divE (h0 : q ≠ 0) : Ev (fun k => rADiv.f k (Sv.rtxt p) (Sv.rtxt q)) (Sv.rtxt (p / q), 0) := by
 have h1 := ndR_nd p
 have h2 := ndR_nd q
 have b1 := nd_mul p.num q.den
 have b3 := nd_mul p.den q.num
 refine (rat_Div p q (by omega) (by omega)).eq ?_
 unfold divR
 rw [if_neg h0, if_pos ⟨by omega, by omega⟩]
def sgn (p q : Rat) : Int := (p.num * q.den - q.num * p.den).sign
theorem cmpE : Ev (fun k => rACompare.f k (Sv.rtxt p) (Sv.rtxt q)) (sgn p q, 0) := by
 have h1 := ndR_nd p
 have h2 := ndR_nd q
 have b1 := nd_mul p.num q.den
 have b2 := nd_mul q.num p.den
 exact (rat_Compare p q (by omega) (by omega)).eq (if_pos ⟨by omega, by omega⟩)
end small
theorem div0E (p : Rat) (h : ndR p ≤ 4096) : Ev (fun k => rADiv.f k (Sv.rtxt p) (Sv.rtxt 0)) (⟨#[]⟩, 19) :=
 (rat_Div p 0 h (by unfold ndR; have := nd0; have := nd1; show max (Sv.nd 0) (Sv.nd 1) ≤ 4096; omega)).eq (if_pos rfl)
theorem numE (q : Rat) (h : ndR q ≤ 4096) : Ev (fun k => rANum.f k (Sv.rtxt q)) (Sv.txt q.num, 0) := by
 refine (rat_Num (Okt.q h)).eq ?_
 rw [if_pos (chkR_small h), topS_rtxt]
theorem denE (q : Rat) (h : ndR q ≤ 4096) : Ev (fun k => rADen.f k (Sv.rtxt q)) (Sv.txt q.den, 0) := by
 refine (rat_Den (Okt.q h)).eq ?_
 rw [if_pos (chkR_small h), botS_rtxt]
theorem rt_lit (n : Int) (d : Nat) (h0 : d ≠ 0) (h1 : n.natAbs.Coprime d) (l : List UInt8) (h : (if d = 1 then Sv.txtL n else Sv.txtL n ++ 47 :: Sv.txtL d) = l) : Sv.rtxt (Rat.mk' n d h0 h1) = ⟨l.toArray⟩ := by
 apply ba_ext
 rw [Sv.rtxt_toList, ba_mk, ← h]
theorem nd_lt10 {n : Int} (h : n.natAbs < 10) : Sv.nd n ≤ 1 := Sv.nd_le (by omega) (by omega)
theorem ndR_lit (n : Int) (d : Nat) (h0 : d ≠ 0) (h1 : n.natAbs.Coprime d) (hn : n.natAbs < 10) (hd : d < 10) : ndR (Rat.mk' n d h0 h1) ≤ 1 := by
 unfold ndR
 have a := nd_lt10 hn
 have b := nd_lt10 (n := (d : Int)) (by omega)
 show max (Sv.nd n) (Sv.nd d) ≤ 1
 omega
def q12 : Rat := Rat.mk' 1 2 (by decide) (by decide)
def q13 : Rat := Rat.mk' 1 3 (by decide) (by decide)
def q25 : Rat := Rat.mk' 2 5 (by decide) (by decide)
def qm3 : Rat := Rat.mk' (-3) 1 (by decide) (by decide)
def q56 : Rat := Rat.mk' 5 6 (by decide) (by decide)
def qm16 : Rat := Rat.mk' (-1) 6 (by decide) (by decide)
def qm32 : Rat := Rat.mk' (-3) 2 (by decide) (by decide)
theorem r12 : Sv.rtxt q12 = ⟨#[49, 47, 50]⟩ := rt_lit 1 2 _ _ _ (by simp [Sv.txtL, Sv.txtN, Sv.dg, Sv.dch])
theorem r13 : Sv.rtxt q13 = ⟨#[49, 47, 51]⟩ := rt_lit 1 3 _ _ _ (by simp [Sv.txtL, Sv.txtN, Sv.dg, Sv.dch])
theorem r25 : Sv.rtxt q25 = ⟨#[50, 47, 53]⟩ := rt_lit 2 5 _ _ _ (by simp [Sv.txtL, Sv.txtN, Sv.dg, Sv.dch])
theorem rm3 : Sv.rtxt qm3 = ⟨#[45, 51]⟩ := rt_lit (-3) 1 _ _ _ (by simp [Sv.txtL, Sv.txtN, Sv.dg, Sv.dch])
theorem r56 : Sv.rtxt q56 = ⟨#[53, 47, 54]⟩ := rt_lit 5 6 _ _ _ (by simp [Sv.txtL, Sv.txtN, Sv.dg, Sv.dch])
theorem rm16 : Sv.rtxt qm16 = ⟨#[45, 49, 47, 54]⟩ := rt_lit (-1) 6 _ _ _ (by simp [Sv.txtL, Sv.txtN, Sv.dg, Sv.dch])
theorem rm32 : Sv.rtxt qm32 = ⟨#[45, 51, 47, 50]⟩ := rt_lit (-3) 2 _ _ _ (by simp [Sv.txtL, Sv.txtN, Sv.dg, Sv.dch])
theorem r0 : Sv.rtxt 0 = ⟨#[48]⟩ := rfl
theorem r1 : Sv.rtxt 1 = ⟨#[49]⟩ := by show Sv.txt 1 = _; exact txt1
theorem t6 : Sv.txt 6 = ⟨#[54]⟩ := by simp [Sv.txt, Sv.txtL, Sv.txtN, Sv.dg, Sv.dch]
theorem t2 : Sv.txt 2 = ⟨#[50]⟩ := by simp [Sv.txt, Sv.txtL, Sv.txtN, Sv.dg, Sv.dch]
theorem tm1 : Sv.txt (-1) = ⟨#[45, 49]⟩ := by simp [Sv.txt, Sv.txtL, Sv.txtN, Sv.dg, Sv.dch]
theorem tm2 : Sv.txt (-2) = ⟨#[45, 50]⟩ := by simp [Sv.txt, Sv.txtL, Sv.txtN, Sv.dg, Sv.dch]
theorem tm3 : Sv.txt (-3) = ⟨#[45, 51]⟩ := by simp [Sv.txt, Sv.txtL, Sv.txtN, Sv.dg, Sv.dch]
theorem tm4 : Sv.txt (-4) = ⟨#[45, 52]⟩ := by simp [Sv.txt, Sv.txtL, Sv.txtN, Sv.dg, Sv.dch]
theorem ba_list (l : List UInt8) (a : ByteArray) (h : a = ⟨l.toArray⟩) : a.toList = l := by rw [ByteArray.toList_eq, h, ba_mk]
theorem e_add : q12 + q13 = q56 := by decide +kernel
theorem e_div : q12 / qm3 = qm16 := by decide +kernel
theorem e_of : Rat.divInt 6 (-4) = qm32 := by decide +kernel
theorem e_fl : qm32.floor = -2 := by decide +kernel
theorem e_ce : qm32.ceil = -1 := by decide +kernel
theorem e_cmp : sgn q13 q25 = -1 := by decide
theorem bad_of (s : ByteArray) (hs : s.size ≤ 10) (h : ¬ Sv.RCano s) : Ev (fun k => rACheck.f k s) 3 := by
 refine (rat_Check s (by omega)).eq ?_
 unfold chkR
 rw [if_neg (fun e => h (rcanoB_iff.1 e))]
theorem bad_d (s : ByteArray) (h1 : hasS s = true) (h2 : ¬ (1 < Sv.val (botS s) ∧ Int.gcd (Sv.val (topS s)) (Sv.val (botS s)) = 1)) : ¬ Sv.RCano s := fun e => h2 ((rcano_iff.1 e).2 h1).2
theorem bad1 : ¬ Sv.RCano ⟨#[50, 47, 52]⟩ := bad_d _ (by decide) (by decide +kernel)
theorem bad2 : ¬ Sv.RCano ⟨#[51, 47, 49]⟩ := bad_d _ (by decide) (by decide +kernel)
theorem bad3 : ¬ Sv.RCano ⟨#[49, 47, 45, 50]⟩ := bad_d _ (by decide) (by decide +kernel)
theorem bad5 : ¬ Sv.RCano ⟨#[49, 47, 48]⟩ := bad_d _ (by decide) (by decide +kernel)
theorem bad4 : ¬ Sv.RCano ⟨#[45, 48]⟩ := fun e => by
 have h := (rcano_iff.1 e).1
 have e1 : topS ⟨#[45, 48]⟩ = ⟨#[45, 48]⟩ := rfl
 rw [e1, cano_neg (m := [48]) rfl] at h
 exact h.head rfl
theorem bad6 : ¬ Sv.RCano ⟨#[]⟩ := fun e => by
 have h := (rcano_iff.1 e).1
 have e1 : topS ⟨#[]⟩ = ⟨#[]⟩ := rfl
 rw [e1, cano_nn (by simp) (by simp)] at h
 exact h.ne rfl
theorem aw_l0 (l : List ByteArray) (hl : ∀ s ∈ l, s.size ≤ 10 ∧ ¬ Sv.RCano s) (hlen : l.length ≤ 1000) (j : Nat) : ∀ i : Nat, i + j = l.length → Ev (fun k => lWawake.l0 k l (l.length : Int) i) true := by
 induction j with
 | zero =>
  intro i hi
  refine Ev.succ ?_
  simp only [lWawake.l0]
  have := div0E 1 (by have := nd1; unfold ndR; show max (Sv.nd 1) (Sv.nd 1) ≤ 4096; omega)
  rw [r0, r1] at this
  exact Ev.neg (by omega) (Ev.bind this (Ev.of rfl))
 | succ j ih =>
  intro i hi
  refine Ev.succ ?_
  simp only [lWawake.l0]
  have hlt : i < l.length := by omega
  have e : rdOf ByteArray.empty l (i : Int) = l[i] := by simp [rdOf, List.getD, hlt]
  have hm := hl l[i] (List.getElem_mem hlt)
  rw [e, (w64n (by omega) (by omega) : wrap64 ((i : Int) + 1) = ((i + 1 : Nat) : Int))]
  exact Ev.pos (by omega) (Ev.pos (by omega) (Ev.pos (by omega) (Ev.bind (bad_of _ hm.1 hm.2) (Ev.pos rfl (ih (i + 1) (by omega))))))
theorem wz : wrap64 (0 + 0) = 0 := by unfold wrap64; omega
theorem awake_ev : Ev (fun k => lWawake.f k) true := by
 unfold lWawake.f
 have nO : ndR qm32 ≤ 1 := ndR_lit _ _ _ _ (by decide) (by decide)
 have n1 : ndR q12 ≤ 1 := ndR_lit _ _ _ _ (by decide) (by decide)
 have n2 : ndR q13 ≤ 1 := ndR_lit _ _ _ _ (by decide) (by decide)
 have n3 : ndR q25 ≤ 1 := ndR_lit _ _ _ _ (by decide) (by decide)
 have n4 : ndR qm3 ≤ 1 := ndR_lit _ _ _ _ (by decide) (by decide)
 have a1 := rat_Of 6 (-4) (by decide) (Nat.le_trans (nd_lt10 (by decide)) (by omega)) (Nat.le_trans (nd_lt10 (by decide)) (by omega))
 rw [t6, tm4, e_of] at a1
 have a2 := numE qm32 (by omega)
 have a3 := denE qm32 (by omega)
 have a4 := rat_Floor qm32 (by omega)
 have a5 := rat_Ceil qm32 (by omega)
 rw [e_fl, tm2] at a4
 rw [e_ce, tm1] at a5
 have e2 : Sv.txt qm32.num = ⟨#[45, 51]⟩ := tm3
 have e3 : Sv.txt (qm32.den : Int) = ⟨#[50]⟩ := t2
 rw [e2] at a2
 rw [e3] at a3
 refine Ev.bind a1 (Ev.bind a2 (Ev.bind a3 (Ev.bind a4 (Ev.bind a5 (Ev.pos (by simp only [wz]) (Ev.pos (ba_list _ _ rm32) (Ev.pos (ba_list _ _ rfl) (Ev.pos (ba_list _ _ rfl) (Ev.pos (ba_list _ _ rfl) ?_)))))))))
 have b : ((⟨#[45, 49]⟩ : ByteArray).toList != ([45, 49] : List UInt8)) = false := by rw [bne_eq_false_iff_eq]; exact ba_list _ _ rfl
 rw [b]
 refine Ev.succ ?_
 simp only [lWawake.j0]
 have c1 := addE q12 q13 (by omega)
 have c2 := divE q12 qm3 (by omega) (by decide)
 have c3 := cmpE q13 q25 (by omega)
 rw [e_add, r12, r13] at c1
 rw [e_div, r12, rm3] at c2
 rw [e_cmp, r13, r25] at c3
 refine Ev.neg (by simp) (Ev.bind c1 (Ev.bind c2 (Ev.bind c3 (Ev.pos (by simp only [wz]) (Ev.pos (ba_list _ _ r56) (Ev.pos (ba_list _ _ rm16) (Ev.succ ?_)))))))
 simp only [lWawake.j1]
 refine Ev.neg (by simp) (Ev.bs rfl (aw_l0 _ ?_ (by simp) _ 0 (Nat.zero_add _)))
 intro s hs
 simp only [List.mem_cons, List.not_mem_nil, or_false] at hs
 rcases hs with rfl | rfl | rfl | rfl | rfl | rfl
 ·exact ⟨by decide, bad1⟩
 ·exact ⟨by decide, bad2⟩
 ·exact ⟨by decide, bad3⟩
 ·exact ⟨by decide, bad4⟩
 ·exact ⟨by decide, bad5⟩
 ·exact ⟨by decide, bad6⟩
theorem Ev.ex {α : Type} {f : Nat → Option α} {x : α} (h : Ev f x) : ∃ k, f k = some x := by
 obtain ⟨n, hn⟩ := h
 exact ⟨n, hn n (Nat.le_refl _)⟩
set_option linter.unusedVariables false
set_option linter.unusedSimpArgs false
open Go.RowKit Go.Proofs.WWords Go.Proofs.WMore
end Go.Proofs.YthnfajboebaajaaGreatDoor.PA
