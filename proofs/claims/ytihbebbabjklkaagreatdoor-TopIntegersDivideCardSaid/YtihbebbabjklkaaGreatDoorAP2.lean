import Derived.Test.YtihbebbabjklkaaGreatDoorAP1
set_option linter.unusedVariables false
set_option linter.unusedSimpArgs false
namespace Go.Proofs.YtihbebbabjklkaaGreatDoor.PA
open Go.RowKit Go.Proofs.WWords Go.Proofs.WMore
def ix : List UInt8 → Nat
 | [] => 0
 | c :: l => if c = 47 then 0 else ix l + 1
theorem ix_none {l : List UInt8} (h : ∀ c ∈ l, c ≠ 47) : ix l = l.length := by
 induction l with
 | nil => rfl
 | cons c l ih =>
  unfold ix
  rw [if_neg (h c (by simp)), ih fun c hc => h c (by simp [hc])]
  rfl
theorem ix_app {l m : List UInt8} (h : ∀ c ∈ l, c ≠ 47) : ix (l ++ 47 :: m) = l.length := by
 induction l with
 | nil => simp [ix]
 | cons c l ih =>
  rw [List.cons_append]
  unfold ix
  rw [if_neg (h c (by simp)), ih fun c hc => h c (by simp [hc])]
  rfl
theorem ix_split {l : List UInt8} (h : ix l < l.length) : l = l.take (ix l) ++ 47 :: l.drop (ix l + 1) := by
 induction l with
 | nil => simp [ix] at h
 | cons c l ih =>
  unfold ix at h ⊢
  by_cases hc : c = 47
  ·subst hc; simp
  ·rw [if_neg hc] at h ⊢
   have := ih (by simpa using h)
   rw [List.take_succ_cons, List.drop_succ_cons, List.cons_append, ← this]
theorem ib_ix (l : List UInt8) : Lib.indexByte l 47 = if ix l < l.length then (ix l : Int) else -1 := by
 induction l with
 | nil => simp [Lib.indexByte]
 | cons c l ih =>
  unfold Lib.indexByte ix
  by_cases hc : c = 47
  ·subst hc; simp
  ·have : (c == 47) = false := by simpa using hc
   rw [this, if_neg hc]
   by_cases h : ix l < l.length
   ·have h2 : ((ix l : Int) == -1) = false := by rw [beq_eq_false_iff_ne]; omega
    rw [if_pos h] at ih
    rw [ih, h2, if_pos (show ix l + 1 < (c :: l).length by simp; omega)]
    simp
   ·rw [if_neg h] at ih
    rw [ih, if_neg (show ¬ ix l + 1 < (c :: l).length by simp; omega)]
    simp
def hasS (s : ByteArray) : Bool := decide (ix s.data.toList < s.size)
def topS (s : ByteArray) : ByteArray := if hasS s = true then s.extract 0 (ix s.data.toList) else s
def botS (s : ByteArray) : ByteArray := if hasS s = true then s.extract (ix s.data.toList + 1) s.size else ⟨#[49]⟩
theorem hasS_iff {s : ByteArray} : hasS s = true ↔ ix s.data.toList < s.size := by unfold hasS; exact decide_eq_true_iff
theorem rat_split (s : ByteArray) (hs : s.size ≤ 1000000000000000000) : rAsplit.f s = some (topS s, botS s) := by
 unfold rAsplit.f strings_IndexByte.f topS botS
 have e : Lib.indexByte s.data.toList (47 : Int).toNat.toUInt8 = if hasS s = true then (ix s.data.toList : Int) else -1 := by
  have := ib_ix s.data.toList
  rw [sz_list] at this
  unfold hasS
  simp only [decide_eq_true_iff]
  exact this
 rw [e, Option.bind_some]
 by_cases h : hasS s = true
 ·have := hasS_iff.1 h
  rw [if_pos h, if_pos h, if_pos h]
  rw [(w64n (by omega) (by omega) : wrap64 ((ix s.data.toList : Int) + 1) = ((ix s.data.toList + 1 : Nat) : Int)), Int.toNat_natCast, Int.toNat_natCast]
  rw [if_pos (by omega), if_pos (by omega), if_pos (by omega), if_pos (by omega), if_pos (by omega)]
 ·rw [if_neg h, if_neg h, if_neg h, if_neg (by omega)]
theorem rat_contains (s : ByteArray) : strings_Contains.f s ⟨#[47]⟩ = some (hasS s) := by
 show some (decide (0 ≤ Lib.indexByte s.data.toList 47)) = _
 rw [ib_ix, sz_list]
 unfold hasS
 congr 1
 by_cases h : ix s.data.toList < s.size
 ·rw [if_pos h]; simp [h]
 ·rw [if_neg h]; simp [h]
theorem ext_list (s : ByteArray) (a b : Nat) : (s.extract a b).data.toList = (s.data.toList.drop a).take (b - a) := by rw [← ByteArray.toList_eq, Lib.extract_toList]
theorem rtxt_cases (q : Rat) : (q.den = 1 ∧ Sv.rtxt q = Sv.txt q.num) ∨ (q.den ≠ 1 ∧ (Sv.rtxt q).data.toList = Sv.txtL q.num ++ 47 :: Sv.txtL q.den) := by
 by_cases h : q.den = 1
 ·left; refine ⟨h, ?_⟩; unfold Sv.rtxt; rw [if_pos h]
 ·right; refine ⟨h, ?_⟩; rw [Sv.rtxt_toList, if_neg h]
theorem hasS_txt (n : Int) : hasS (Sv.txt n) = false := by
 unfold hasS
 rw [← sz_list, show (Sv.txt n).data.toList = Sv.txtL n from rfl, ix_none (Sv.txtL_ne47 n)]
 simp
theorem hasS_rtxt (q : Rat) : hasS (Sv.rtxt q) = decide (q.den ≠ 1) := by
 rcases rtxt_cases q with ⟨h, e⟩ | ⟨h, e⟩
 ·rw [e, hasS_txt]; simp [h]
 ·unfold hasS
  rw [← sz_list, e, ix_app (Sv.txtL_ne47 _)]
  simp [h]
theorem txtL_len (n : Int) : (Sv.txtL n).length = (Sv.txt n).size := by rw [← sz_list]; rfl
theorem topS_rtxt (q : Rat) : topS (Sv.rtxt q) = Sv.txt q.num := by
 unfold topS
 rw [hasS_rtxt]
 rcases rtxt_cases q with ⟨h, e⟩ | ⟨h, e⟩
 ·rw [if_neg (by simp [h]), e]
 ·rw [if_pos (by simp [h])]
  apply ba_ext
  rw [ext_list, e, ix_app (Sv.txtL_ne47 _)]
  simp
  rfl
theorem botS_rtxt (q : Rat) : botS (Sv.rtxt q) = Sv.txt q.den := by
 unfold botS
 rw [hasS_rtxt]
 rcases rtxt_cases q with ⟨h, e⟩ | ⟨h, e⟩
 ·rw [if_neg (by simp [h]), h]; exact txt1.symm
 ·rw [if_pos (by simp [h])]
  apply ba_ext
  rw [ext_list, ← sz_list, e, ix_app (Sv.txtL_ne47 _)]
  simp only [List.length_append, List.length_cons]
  rw [List.drop_append, List.drop_of_length_le (by omega), show (Sv.txtL q.num).length + 1 - (Sv.txtL q.num).length = 1 by omega]
  simp only [List.nil_append, List.drop_succ_cons, List.drop_zero]
  rw [List.take_of_length_le (by omega)]
  rfl
theorem rcano_iff {s : ByteArray} : Sv.RCano s ↔ Sv.Cano (topS s) ∧ (hasS s = true → Sv.Cano (botS s) ∧ 1 < Sv.val (botS s) ∧ Int.gcd (Sv.val (topS s)) (Sv.val (botS s)) = 1) := by
 constructor
 ·rintro ⟨q, rfl⟩
  rw [topS_rtxt, botS_rtxt, hasS_rtxt, Sv.val_txt, Sv.val_txt]
  refine ⟨⟨_, rfl⟩, fun h => ⟨⟨_, rfl⟩, ?_, ?_⟩⟩
  ·have h1 : q.den ≠ 1 := by simpa using h
   have := q.den_nz
   omega
  ·exact q.reduced
 ·rintro ⟨⟨n, hn⟩, hb⟩
  by_cases h : hasS s = true
  ·obtain ⟨⟨d, hd⟩, h1, h2⟩ := hb h
   rw [hd, hn, Sv.val_txt, Sv.val_txt] at h2
   rw [hd, Sv.val_txt] at h1
   obtain ⟨d', rfl⟩ := Int.eq_ofNat_of_zero_le (show 0 ≤ d by omega)
   refine ⟨⟨n, d', by omega, h2⟩, ?_⟩
   apply ba_ext
   rw [Sv.rtxt_toList]
   simp only
   rw [if_neg (by omega)]
   unfold topS at hn
   unfold botS at hd
   rw [if_pos h] at hn hd
   have hlt := hasS_iff.1 h
   rw [← sz_list] at hlt
   have e1 := congrArg (fun x : ByteArray => x.data.toList) hn
   have e2 := congrArg (fun x : ByteArray => x.data.toList) hd
   simp only [ext_list] at e1 e2
   rw [List.drop_zero, Nat.sub_zero] at e1
   rw [List.take_of_length_le (by rw [List.length_drop, sz_list]; omega)] at e2
   have := ix_split hlt
   rw [e1, e2] at this
   exact this
  ·unfold topS at hn
   rw [if_neg h] at hn
   refine ⟨(n : Rat), ?_⟩
   rw [hn]
   unfold Sv.rtxt
   rw [if_pos (Rat.den_intCast n), Rat.num_intCast]
noncomputable def rcanoB (s : ByteArray) : Bool := @decide (Sv.RCano s) (Classical.propDecidable _)
theorem rcanoB_iff {s : ByteArray} : rcanoB s = true ↔ Sv.RCano s := by unfold rcanoB; exact @decide_eq_true_iff _ (Classical.propDecidable _)
def ndR (q : Rat) : Nat := max (Sv.nd q.num) (Sv.nd q.den)
noncomputable def chkR (s : ByteArray) : Int := if rcanoB s = true then (if (max (Sv.nd (Sv.val (topS s))) (Sv.nd (Sv.val (botS s))) : Int) > 4096 then 10 else 0) else 3
theorem chkR_rtxt (q : Rat) : chkR (Sv.rtxt q) = if (ndR q : Int) > 4096 then 10 else 0 := by
 unfold chkR ndR
 rw [if_pos (rcanoB_iff.2 ⟨q, rfl⟩), topS_rtxt, botS_rtxt, Sv.val_txt, Sv.val_txt]
 have : ((max (Sv.nd q.num) (Sv.nd q.den) : Nat) : Int) = max (Sv.nd q.num : Int) (Sv.nd q.den : Int) := by omega
 rw [this]
theorem chkR_small {q : Rat} (h : ndR q ≤ 4096) : chkR (Sv.rtxt q) = 0 := by rw [chkR_rtxt, if_neg (by omega)]
theorem top_size (s : ByteArray) : (topS s).size ≤ s.size := by
 unfold topS
 split
 ·rename_i h
  have := hasS_iff.1 h
  rw [← sz_list, ext_list, List.length_take, List.length_drop, sz_list]
  omega
 ·exact Nat.le_refl _
theorem bot_size (s : ByteArray) : (botS s).size ≤ s.size + 1 := by
 unfold botS
 split
 ·rw [← sz_list, ext_list, List.length_take, List.length_drop, sz_list]
  omega
 ·show 1 ≤ s.size + 1; omega
theorem chk_cases (s : ByteArray) : (canoB s = true ∧ (chkI s = 0 ∨ chkI s = 10)) ∨ (canoB s = false ∧ chkI s = 3) := by
 unfold chkI
 cases h : canoB s
 ·right; simp
 ·left; refine ⟨rfl, ?_⟩; simp only [if_true]; split <;> simp
set_option linter.unusedVariables false
set_option linter.unusedSimpArgs false
theorem rat_digits (n : Int) (h : Sv.nd n ≤ 100000000000000000) : rAdigits.f (Sv.txt n) = some (Sv.nd n : Int) := by
 unfold rAdigits.f
 rw [trimP_txt n h, Option.bind_some, size_abs]
theorem rat_canonical (s : ByteArray) (hs : s.size ≤ 100000000000000000) : rAcanonical.f s = some (canoB s) := by
 unfold rAcanonical.f
 rw [bi_Check s hs, Option.bind_some]
 congr 1
 rcases chk_cases s with ⟨c1, c2 | c2⟩ | ⟨c1, c2⟩ <;> rw [c1, c2] <;> rfl
theorem rat_common (n d : Int) (hn : Sv.nd n ≤ 4096) (hd : Sv.nd d ≤ 4096) : Ev (fun k => rAcommon.f k (Sv.txt n) (Sv.txt d)) (!decide (Int.gcd n d = 1)) := by
 unfold rAcommon.f
 refine Ev.bs (rat_digits n (by omega)) (Ev.pos (by omega) (Ev.bs (rat_digits d (by omega)) ?_))
 rw [decide_eq_true (show (Sv.nd d : Int) ≤ 4096 by omega)]
 refine Ev.succ ?_
 simp only [rAcommon.j0]
 refine Ev.pos trivial (Ev.bind (bi_Gcd n d hn hd) (Ev.pos rfl (Ev.of ?_)))
 congr 1
 show ((Sv.txt (Int.gcd n d : Int)).toList != [49]) = _
 rw [Bool.eq_iff_iff, bne_iff_ne, Bool.not_eq_true', decide_eq_false_iff_not, ne_eq, toList_iff]
 constructor
 ·intro h e; rw [e] at h; exact h (by rw [show ((1 : Nat) : Int) = 1 from rfl, txt1])
 ·intro h e
  have : Sv.txt (Int.gcd n d : Int) = Sv.txt 1 := ba_ext (by rw [e, txt1])
  have := Sv.txt_inj.1 this
  omega
theorem rat_j1 (n d : Int) (hn : Sv.nd n ≤ 100000000000000000) (hd : Sv.nd d ≤ 100000000000000000) : Ev (fun k => rACheck.j1 k (Sv.txt n) (Sv.txt d) false) (if (max (Sv.nd n) (Sv.nd d) : Int) > 4096 then 10 else 0) := by
 refine Ev.succ ?_
 simp only [rACheck.j1]
 refine Ev.neg (by simp) (Ev.bs (rat_digits n hn) ?_)
 by_cases h1 : (Sv.nd n : Int) > 4096
 ·refine Ev.pos h1 (Ev.of ?_)
  rw [if_pos (by omega)]
 ·refine Ev.neg h1 (Ev.bs (rat_digits d hd) ?_)
  by_cases h2 : (Sv.nd d : Int) > 4096
  ·refine Ev.pos h2 (Ev.of ?_)
   rw [if_pos (by omega)]
  ·refine Ev.neg h2 (Ev.of ?_)
   rw [if_neg (by omega)]
theorem rat_j1t (a b : ByteArray) : Ev (fun k => rACheck.j1 k a b true) 3 := by
 refine Ev.succ ?_
 simp only [rACheck.j1, if_true]
 exact Ev.of rfl
theorem txt_bt0 (n : Int) : (bt (Sv.txt n) 0 = 45) ↔ n < 0 := bt_txt0 n
theorem txt_eq1 (n : Int) : (Sv.txt n).toList = ([49] : List UInt8) ↔ n = 1 := by
 rw [toList_iff]
 constructor
 ·intro h; exact Sv.txt_inj.1 (ba_ext (by rw [h, txt1]))
 ·rintro rfl; rw [txt1]
theorem rat_Check' (s : ByteArray) (hs : s.size ≤ 10000000000) (hc : ∀ n d : Int, topS s = Sv.txt n → botS s = Sv.txt d → hasS s = true → ∃ b, Ev (fun k => rAcommon.f k (Sv.txt n) (Sv.txt d)) b ∧ (1 < d → (b = true ↔ Int.gcd n d ≠ 1))) : Ev (fun k => rACheck.f k s) (chkR s) := by
 unfold rACheck.f
 have t1 := top_size s
 have t2 := bot_size s
 refine Ev.bs (rat_split s (by omega)) (Ev.bs (rat_canonical _ (show (topS s).size ≤ _ by omega)) ?_)
 have key : ∀ b : Bool, b = (!(canoB (topS s) && canoB (botS s))) → Ev (fun k => rACheck.j0 k s (topS s) (botS s) b) (chkR s) := by
  intro b hb
  refine Ev.succ ?_
  simp only [rACheck.j0]
  have bad : rcanoB s = false → chkR s = 3 := fun h => by unfold chkR; rw [if_neg (by rw [h]; simp)]
  by_cases h1 : canoB (topS s) = true
  ·by_cases h2 : canoB (botS s) = true
   ·obtain ⟨n, hn⟩ := canoB_iff.1 h1
    obtain ⟨d, hd⟩ := canoB_iff.1 h2
    have hs1 := nd_size n
    have hs2 := nd_size d
    rw [← hn] at hs1
    rw [← hd] at hs2
    rw [hb, h1, h2]
    have good : rcanoB s = true → chkR s = (if (max (Sv.nd n) (Sv.nd d) : Int) > 4096 then 10 else 0) := fun h => by
     unfold chkR; rw [if_pos h, hn, hd, Sv.val_txt, Sv.val_txt]
    refine Ev.neg (by simp) (Ev.bs (rat_contains s) ?_)
    by_cases h : hasS s = true
    ·refine Ev.pos h ?_
     obtain ⟨b, hb1, hb2⟩ := hc n d hn hd h
     have rc : rcanoB s = true ↔ 1 < d ∧ Int.gcd n d = 1 := by
      rw [rcanoB_iff, rcano_iff, hn, hd, Sv.val_txt, Sv.val_txt]
      exact ⟨fun e => (e.2 h).2, fun e => ⟨⟨n, rfl⟩, fun _ => ⟨⟨d, rfl⟩, e⟩⟩⟩
     have nrc : ¬ (1 < d ∧ Int.gcd n d = 1) → rcanoB s = false := fun e => by
      cases hq : rcanoB s
      ·rfl
      ·exact absurd (rc.1 hq) e
     rw [hn, hd]
     by_cases d0 : d = 0
     ·refine Ev.pos ((txt_eq0 d).2 d0) ((rat_j1t _ _).eq ?_)
      rw [bad (nrc (by omega))]
     ·refine Ev.neg (fun e => d0 ((txt_eq0 d).1 e)) ?_
      by_cases d1 : d = 1
      ·refine Ev.pos ((txt_eq1 d).2 d1) ((rat_j1t _ _).eq ?_)
       rw [bad (nrc (by omega))]
      ·refine Ev.neg (fun e => d1 ((txt_eq1 d).1 e)) (Ev.pos (by have := txt_size_pos d; omega) ?_)
       by_cases dn : d < 0
       ·refine Ev.pos ((txt_bt0 d).2 dn) ((rat_j1t _ _).eq ?_)
        rw [bad (nrc (by omega))]
       ·refine Ev.neg (fun e => dn ((txt_bt0 d).1 e)) (Ev.bind hb1 ?_)
        have hb3 := hb2 (by omega)
        cases hbb : b
        ·have hg : Int.gcd n d = 1 := by
          have := mt hb3.2 (by rw [hbb]; simp)
          simpa using this
         rw [good (rc.2 ⟨by omega, hg⟩)]
         exact rat_j1 n d (by omega) (by omega)
        ·have hg := hb3.1 hbb
         refine (rat_j1t _ _).eq ?_
         rw [bad (nrc (fun e => hg e.2))]
    ·refine Ev.neg h ?_
     have rc : rcanoB s = true := by rw [rcanoB_iff, rcano_iff, hn]; exact ⟨⟨n, rfl⟩, fun e => absurd e h⟩
     rw [good rc, hn, hd]
     exact rat_j1 n d (by omega) (by omega)
   ·have hf : canoB (botS s) = false := by simpa using h2
    rw [hb, h1, hf]
    refine Ev.pos rfl (Ev.of ?_)
    rw [bad]
    by_cases h : hasS s = true
    ·cases hq : rcanoB s
     ·rfl
     ·have := ((rcano_iff.1 (rcanoB_iff.1 hq)).2 h).1
      rw [← canoB_iff, hf] at this; cases this
    ·exfalso
     apply h2
     unfold botS
     rw [if_neg h, ← txt1]; exact canoB_txt 1
  ·have hf : canoB (topS s) = false := by simpa using h1
   rw [hb, hf]
   refine Ev.pos rfl (Ev.of ?_)
   rw [bad]
   cases hq : rcanoB s
   ·rfl
   ·have := (rcano_iff.1 (rcanoB_iff.1 hq)).1
    rw [← canoB_iff, hf] at this; cases this
 by_cases h1 : canoB (topS s) = true
 ·refine Ev.pos h1 (Ev.bs (rat_canonical _ (show (botS s).size ≤ _ by omega)) (key _ ?_))
  rw [h1]; rfl
 ·refine Ev.neg h1 (key _ ?_)
  rw [show canoB (topS s) = false by simpa using h1]; rfl
theorem rtxt_size (q : Rat) : (Sv.rtxt q).size ≤ 2 * ndR q + 2 := by
 rcases rtxt_cases q with ⟨h, e⟩ | ⟨h, e⟩
 ·rw [e, Sv.txt_size]
  unfold ndR
  split <;> omega
 ·rw [← sz_list, e, List.length_append, List.length_cons, txtL_len, txtL_len, Sv.txt_size, Sv.txt_size]
  unfold ndR
  split <;> split <;> omega
theorem rat_CheckQ (q : Rat) (h : ndR q ≤ 4096) : Ev (fun k => rACheck.f k (Sv.rtxt q)) 0 := by
 have hs := rtxt_size q
 refine (rat_Check' _ (by omega) fun n d hn hd _ => ?_).eq (chkR_small h)
 rw [topS_rtxt] at hn
 rw [botS_rtxt] at hd
 have e1 := Sv.txt_inj.1 hn
 have e2 := Sv.txt_inj.1 hd
 unfold ndR at h
 refine ⟨_, rat_common n d (by rw [← e1]; omega) (by rw [← e2]; omega), fun _ => ?_⟩
 simp
theorem rtxt_divInt (m n : Int) (hn : n ≠ 0) : Sv.rtxt (Rat.divInt m n) = if ((n.natAbs / n.gcd m : Nat) : Int) = 1 then Sv.txt (n.sign * m / n.gcd m) else Sv.txt (n.sign * m / n.gcd m) ++ ⟨#[47]⟩ ++ Sv.txt ((n.natAbs / n.gcd m : Nat) : Int) := by
 unfold Sv.rtxt
 rw [Rat.num_divInt, Rat.den_divInt, if_neg hn]
 by_cases h : n.natAbs / n.gcd m = 1
 ·rw [if_pos h, if_pos (by omega)]
 ·rw [if_neg h, if_neg (by omega)]
theorem gcd_pos {m n : Int} (hn : n ≠ 0) : 0 < Int.gcd n m := by
 rcases Nat.eq_zero_or_pos (Int.gcd n m) with h | h
 ·exact absurd (Int.gcd_eq_zero_iff.1 h).1 hn
 ·exact h
theorem fdiv_pos (m : Int) {g : Nat} : m.fdiv (g : Int) = m / (g : Int) := Int.fdiv_eq_ediv_of_nonneg m (by omega)
theorem join_text (p q : Int) (hp : Sv.nd p ≤ 1000000000000) (hq : Sv.nd q ≤ 1000000000000) : (Sv.txt p).size + 1 ≤ 9223372036854775807 ∧ (Sv.txt p ++ (⟨#[47]⟩ : ByteArray)).size + (Sv.txt q).size ≤ 9223372036854775807 := by
 have h1 := Sv.txt_size p
 have h2 := Sv.txt_size q
 have h3 : (Sv.txt p ++ (⟨#[47]⟩ : ByteArray)).size = (Sv.txt p).size + 1 := by rw [ByteArray.size_append]; rfl
 rw [h3]
 split at h1 <;> split at h2 <;> omega
theorem whole_j0 (m n : Int) (g : Int) (hn : n ≠ 0) (hm : Sv.nd m ≤ 4096) (hnd : Sv.nd n ≤ 4096) (hg0 : g ≠ 0) (hg : Sv.nd g ≤ 4096) (e1 : m.fdiv g = n.sign * m / (n.gcd m : Int)) (e2 : n.fdiv g = ((n.natAbs / n.gcd m : Nat) : Int)) : Ev (fun k => rAwhole.j0 k (Sv.txt m) (Sv.txt n) (Sv.txt g)) (Sv.rtxt (Rat.divInt m n), 0) := by
 refine Ev.succ ?_
 simp only [rAwhole.j0]
 have d1 := nd_fdiv m g hg0
 have d2 := nd_fdiv n g hg0
 refine Ev.bind (bi_Quo m g hg0 hm hg) (Ev.pos rfl (Ev.bind (bi_Quo n g hg0 hnd hg) (Ev.pos rfl ?_)))
 have j := join_text (m.fdiv g) (n.fdiv g) (by omega) (by omega)
 rw [rtxt_divInt m n hn, ← e1, ← e2]
 dsimp only
 by_cases h : n.fdiv g = 1
 ·rw [if_pos h]
  exact Ev.pos ((txt_eq1 _).2 h) (Ev.of rfl)
 ·rw [if_neg h]
  exact Ev.neg (fun e => h ((txt_eq1 _).1 e)) (Ev.pos j.1 (Ev.pos j.2 (Ev.of rfl)))
theorem rat_whole (m n : Int) (hn : n ≠ 0) (hm : Sv.nd m ≤ 4096) (hnd : Sv.nd n ≤ 4096) : Ev (fun k => rAwhole.f k (Sv.txt m) (Sv.txt n)) (Sv.rtxt (Rat.divInt m n), 0) := by
 unfold rAwhole.f
 have hg : 0 < Int.gcd m n := by rw [Int.gcd_comm]; exact gcd_pos (by omega)
 have hgl : Sv.nd (Int.gcd m n : Int) ≤ 4096 := by
  refine Nat.le_trans (nd_mono ?_) hnd
  rw [Int.natAbs_natCast]
  exact Nat.gcd_le_right _ (by omega)
 have dn : (n.natAbs : Int) / (Int.gcd m n : Int) = ((n.natAbs / Int.gcd m n : Nat) : Int) := (Int.natCast_ediv _ _).symm
 refine Ev.bind (bi_Gcd m n hm hnd) (Ev.pos rfl (Ev.bind (bi_Sign n hnd) ?_))
 dsimp only
 by_cases h : n < 0
 ·refine Ev.pos (Int.sign_neg_iff.2 h) (Ev.bind (bi_Neg _ hgl) ?_)
  refine whole_j0 m n (-(Int.gcd m n : Int)) hn hm hnd (by omega) (by rw [Sv.nd_neg]; exact hgl) ?_ ?_
  ·rw [Int.gcd_comm n m, Int.sign_eq_neg_one_of_neg h, ← Int.neg_eq_neg_one_mul, ← Int.neg_fdiv_neg, Int.neg_neg, fdiv_pos]
  ·rw [Int.gcd_comm n m, ← Int.neg_fdiv_neg, Int.neg_neg, fdiv_pos, ← dn, show ((n.natAbs : Nat) : Int) = -n by omega]
 ·refine Ev.neg (fun e => h (Int.sign_neg_iff.1 e)) ?_
  refine whole_j0 m n (Int.gcd m n : Int) hn hm hnd (by omega) hgl ?_ ?_
  ·rw [Int.gcd_comm n m, Int.sign_eq_one_of_pos (by omega), Int.one_mul, fdiv_pos]
  ·rw [Int.gcd_comm n m, fdiv_pos, ← dn, show ((n.natAbs : Nat) : Int) = n by omega]
set_option linter.unusedVariables false
set_option linter.unusedSimpArgs false
structure Okt (s : ByteArray) : Prop where
 size : s.size ≤ 10000
 small : s.size ≤ 4090 ∨ (∃ q, s = Sv.rtxt q ∧ ndR q ≤ 4096) ∨ Ev (fun k => rACheck.f k s) (chkR s)
theorem Okt.of {s : ByteArray} (h : s.size ≤ 4090) : Okt s := ⟨by omega, .inl h⟩
theorem Okt.q {q : Rat} (h : ndR q ≤ 4096) : Okt (Sv.rtxt q) := ⟨by have := rtxt_size q; omega, .inr (.inl ⟨q, rfl, h⟩)⟩
section one
variable {s : ByteArray} (hs : Okt s)
include hs
end one
theorem ndR_num {q : Rat} (h : ndR q ≤ 4096) : Sv.nd q.num ≤ 4096 := by unfold ndR at h; omega
theorem ndR_den {q : Rat} (h : ndR q ≤ 4096) : Sv.nd (q.den : Int) ≤ 4096 := by unfold ndR at h; omega
theorem den_ne (q : Rat) : (q.den : Int) ≠ 0 := by have := q.den_nz; omega
section two
variable {s t : ByteArray} (hs : Okt s) (ht : Okt t)
include hs ht
end two
theorem rat_pair (p q : Rat) (hp : ndR p ≤ 4096) (hq : ndR q ≤ 4096) : Ev (fun k => rAnewPair.f k (Sv.rtxt p) (Sv.rtxt q)) (Sv.txt p.num, Sv.txt p.den, Sv.txt q.num, Sv.txt q.den, 0) := by
 unfold rAnewPair.f
 have s1 := rtxt_size p
 have s2 := rtxt_size q
 refine Ev.bind (rat_CheckQ p hp) (Ev.pos rfl (Ev.bind (rat_CheckQ q hq) (Ev.pos rfl (Ev.bs (rat_split _ (by omega)) (Ev.bs (rat_split _ (by omega)) (Ev.of ?_))))))
 rw [topS_rtxt, botS_rtxt, topS_rtxt, botS_rtxt]
theorem rat_both (a b c d : Int) (ha : Sv.nd a ≤ 4096) (hb : Sv.nd b ≤ 4096) (hc : Sv.nd c ≤ 4096) (hd : Sv.nd d ≤ 4096) : Ev (fun k => rAboth.f k (Sv.txt a) (Sv.txt b) (Sv.txt c) (Sv.txt d)) (if Sv.nd (a * b) ≤ 4096 then (Sv.txt (a * b), (lim (c * d)).1, (lim (c * d)).2) else (⟨#[]⟩, ⟨#[]⟩, 10)) := by
 unfold rAboth.f
 have h1 := bi_Mul a b ha hb
 by_cases h : Sv.nd (a * b) ≤ 4096
 ·rw [lim_small h] at h1
  rw [if_pos h]
  exact Ev.bind h1 (Ev.pos rfl (Ev.bind (bi_Mul c d hc hd) (Ev.of rfl)))
 ·unfold lim at h1
  rw [if_neg h] at h1
  rw [if_neg h]
  exact Ev.bind h1 (Ev.neg (show ¬ ((10 : Int) = 0) by decide) (Ev.of rfl))
section tops
variable {p : Rat} (hp : ndR p ≤ 4096)
include hp
end tops
theorem add_divInt (p q : Rat) : Rat.divInt (p.num * q.den + q.num * p.den) (p.den * q.den) = p + q := by
 rw [Rat.add_def', show ((p.den : Int) * (q.den : Int)) = ((p.den * q.den : Nat) : Int) from (Int.natCast_mul _ _).symm, Rat.divInt_ofNat]
def addR (p q : Rat) : ByteArray × Int := if Sv.nd (p.num * q.den) ≤ 4096 ∧ Sv.nd (q.num * p.den) ≤ 4096 ∧ Sv.nd (p.num * q.den + q.num * p.den) ≤ 4096 ∧ Sv.nd ((p.den : Int) * q.den) ≤ 4096 then (Sv.rtxt (p + q), 0) else (⟨#[]⟩, 10)
theorem den_mul_ne (p q : Rat) : (p.den : Int) * (q.den : Int) ≠ 0 := Int.mul_ne_zero (den_ne p) (den_ne q)
theorem calc_fin {op : Nat → ByteArray → ByteArray → ByteArray → ByteArray → Option (ByteArray × ByteArray × Int)} (p q : Rat) (hp : ndR p ≤ 4096) (hq : ndR q ≤ 4096) (x : ByteArray × ByteArray × Int) (r : ByteArray × Int)
  (hop : Ev (fun k => op k (Sv.txt p.num) (Sv.txt p.den) (Sv.txt q.num) (Sv.txt q.den)) x) (h : (x.2.2 ≠ 0 ∧ r = (⟨#[]⟩, x.2.2)) ∨ (x.2.2 = 0 ∧ Ev (fun k => rAwhole.f k x.1 x.2.1) r)) : Ev (fun k => calcF (op k) k (Sv.rtxt p) (Sv.rtxt q)) r := by
 unfold calcF
 refine Ev.bind (rat_pair p q hp hq) (Ev.pos rfl (Ev.bind hop ?_))
 rcases h with ⟨h1, rfl⟩ | ⟨h1, h2⟩
 ·exact Ev.neg h1 (Ev.of rfl)
 ·exact Ev.pos h1 h2
theorem ten_ne : ¬ ((10 : Int) = 0) := by decide
theorem rat_Add (p q : Rat) (hp : ndR p ≤ 4096) (hq : ndR q ≤ 4096) : Ev (fun k => rAAdd.f k (Sv.rtxt p) (Sv.rtxt q)) (addR p q) := by
 unfold rAAdd.f rAcalculate.f addR
 refine Ev.bind (x := addR p q) (Ev.pos rfl ?_) (Ev.of rfl)
 have hb := rat_both p.num q.den q.num p.den (ndR_num hp) (ndR_den hq) (ndR_num hq) (ndR_den hp)
 have hm := bi_Mul p.den q.den (ndR_den hp) (ndR_den hq)
 unfold addR
 by_cases h1 : Sv.nd (p.num * q.den) ≤ 4096
 ·rw [if_pos h1] at hb
  by_cases h2 : Sv.nd (q.num * p.den) ≤ 4096
  ·rw [lim_small h2] at hb
   have ha := bi_Add _ _ h1 h2
   by_cases h3 : Sv.nd (p.num * q.den + q.num * p.den) ≤ 4096
   ·rw [lim_small h3] at ha
    by_cases h4 : Sv.nd ((p.den : Int) * q.den) ≤ 4096
    ·rw [lim_small h4] at hm
     rw [if_pos ⟨h1, h2, h3, h4⟩, ← add_divInt]
     refine calc_fin p q hp hq (Sv.txt _, Sv.txt _, 0) _ ?_ (.inr ⟨rfl, rat_whole _ _ (den_mul_ne p q) h3 h4⟩)
     unfold rAaddop.f
     exact Ev.bind hb (Ev.pos rfl (Ev.bind ha (Ev.pos rfl (Ev.bind hm (Ev.of rfl)))))
    ·unfold lim at hm
     rw [if_neg h4] at hm
     rw [if_neg (fun e => h4 e.2.2.2)]
     refine calc_fin p q hp hq (Sv.txt (p.num * q.den + q.num * p.den), ⟨#[]⟩, 10) _ ?_ (.inl ⟨ten_ne, rfl⟩)
     unfold rAaddop.f
     exact Ev.bind hb (Ev.pos rfl (Ev.bind ha (Ev.pos rfl (Ev.bind hm (Ev.of rfl)))))
   ·unfold lim at ha
    rw [if_neg h3] at ha
    rw [if_neg (fun e => h3 e.2.2.1)]
    refine calc_fin p q hp hq (⟨#[]⟩, ⟨#[]⟩, 10) _ ?_ (.inl ⟨ten_ne, rfl⟩)
    unfold rAaddop.f
    exact Ev.bind hb (Ev.pos rfl (Ev.bind ha (Ev.neg ten_ne (Ev.of rfl))))
  ·unfold lim at hb
   rw [if_neg h2] at hb
   rw [if_neg (fun e => h2 e.2.1)]
   refine calc_fin p q hp hq (⟨#[]⟩, ⟨#[]⟩, 10) _ ?_ (.inl ⟨ten_ne, rfl⟩)
   unfold rAaddop.f
   exact Ev.bind hb (Ev.neg ten_ne (Ev.of rfl))
 ·rw [if_neg h1] at hb
  rw [if_neg (fun e => h1 e.1)]
  refine calc_fin p q hp hq (⟨#[]⟩, ⟨#[]⟩, 10) _ ?_ (.inl ⟨ten_ne, rfl⟩)
  unfold rAaddop.f
  exact Ev.bind hb (Ev.neg ten_ne (Ev.of rfl))
set_option linter.unusedVariables false
set_option linter.unusedSimpArgs false
open Go.RowKit Go.Proofs.WWords Go.Proofs.WMore
theorem nd_add (m n : Int) : Sv.nd (m + n) ≤ max (Sv.nd m) (Sv.nd n) + 1 := by
 refine Sv.nd_le (by omega) ?_
 have h1 := natAbs_lt_nd m
 have h2 := natAbs_lt_nd n
 have h3 := Nat.pow_le_pow_right (n := 10) (by omega) (show Sv.nd m ≤ max (Sv.nd m) (Sv.nd n) by omega)
 have h4 := Nat.pow_le_pow_right (n := 10) (by omega) (show Sv.nd n ≤ max (Sv.nd m) (Sv.nd n) by omega)
 rw [Nat.pow_succ]
 omega
section any
variable {s t : ByteArray} (hs : Okt s) (ht : Okt t)
include hs ht
end any
section one2
variable {s : ByteArray} (hs : Okt s)
include hs
end one2
set_option linter.unusedVariables false
set_option linter.unusedSimpArgs false
open Go.RowKit Go.Proofs.WWords Go.Proofs.WMore
theorem ndR_nd (q : Rat) : Sv.nd q.num ≤ ndR q ∧ Sv.nd (q.den : Int) ≤ ndR q := by unfold ndR; omega
section small
variable (p q : Rat) (h : ndR p + ndR q + 1 ≤ 4096)
include h
theorem addE : Ev (fun k => rAAdd.f k (Sv.rtxt p) (Sv.rtxt q)) (Sv.rtxt (p + q), 0) := by
 have h1 := ndR_nd p
 have h2 := ndR_nd q
 have b1 := nd_mul p.num q.den
 have b2 := nd_mul q.num p.den
 have b3 := nd_mul p.den q.den
 have b4 := nd_add (p.num * q.den) (q.num * p.den)
 exact (rat_Add p q (by omega) (by omega)).eq (if_pos ⟨by omega, by omega, by omega, by omega⟩)
end small
theorem rt_lit (n : Int) (d : Nat) (h0 : d ≠ 0) (h1 : n.natAbs.Coprime d) (l : List UInt8) (h : (if d = 1 then Sv.txtL n else Sv.txtL n ++ 47 :: Sv.txtL d) = l) : Sv.rtxt (Rat.mk' n d h0 h1) = ⟨l.toArray⟩ := by
 apply ba_ext
 rw [Sv.rtxt_toList, ba_mk, ← h]
theorem nd_lt10 {n : Int} (h : n.natAbs < 10) : Sv.nd n ≤ 1 := Sv.nd_le (by omega) (by omega)
theorem ndR_lit (n : Int) (d : Nat) (h0 : d ≠ 0) (h1 : n.natAbs.Coprime d) (hn : n.natAbs < 10) (hd : d < 10) : ndR (Rat.mk' n d h0 h1) ≤ 1 := by
 unfold ndR
 have a := nd_lt10 hn
 have b := nd_lt10 (n := (d : Int)) (by omega)
 show max (Sv.nd n) (Sv.nd d) ≤ 1
 omega
def q12 : Rat := Rat.mk' 1 2 (by decide) (by decide)
def q13 : Rat := Rat.mk' 1 3 (by decide) (by decide)
def q56 : Rat := Rat.mk' 5 6 (by decide) (by decide)
theorem r12 : Sv.rtxt q12 = ⟨#[49, 47, 50]⟩ := rt_lit 1 2 _ _ _ (by simp [Sv.txtL, Sv.txtN, Sv.dg, Sv.dch])
theorem r13 : Sv.rtxt q13 = ⟨#[49, 47, 51]⟩ := rt_lit 1 3 _ _ _ (by simp [Sv.txtL, Sv.txtN, Sv.dg, Sv.dch])
theorem r56 : Sv.rtxt q56 = ⟨#[53, 47, 54]⟩ := rt_lit 5 6 _ _ _ (by simp [Sv.txtL, Sv.txtN, Sv.dg, Sv.dch])
theorem r0 : Sv.rtxt 0 = ⟨#[48]⟩ := rfl
theorem r1 : Sv.rtxt 1 = ⟨#[49]⟩ := by show Sv.txt 1 = _; exact txt1
theorem t6 : Sv.txt 6 = ⟨#[54]⟩ := by simp [Sv.txt, Sv.txtL, Sv.txtN, Sv.dg, Sv.dch]
theorem t2 : Sv.txt 2 = ⟨#[50]⟩ := by simp [Sv.txt, Sv.txtL, Sv.txtN, Sv.dg, Sv.dch]
theorem tm3 : Sv.txt (-3) = ⟨#[45, 51]⟩ := by simp [Sv.txt, Sv.txtL, Sv.txtN, Sv.dg, Sv.dch]
theorem ba_list (l : List UInt8) (a : ByteArray) (h : a = ⟨l.toArray⟩) : a.toList = l := by rw [ByteArray.toList_eq, h, ba_mk]
theorem e_add : q12 + q13 = q56 := by decide +kernel
theorem wz : wrap64 (0 + 0) = 0 := by unfold wrap64; omega
theorem Ev.ex {α : Type} {f : Nat → Option α} {x : α} (h : Ev f x) : ∃ k, f k = some x := by
 obtain ⟨n, hn⟩ := h
 exact ⟨n, hn n (Nat.le_refl _)⟩
set_option linter.unusedVariables false
set_option linter.unusedSimpArgs false
open Go.RowKit Go.Proofs.WWords Go.Proofs.WMore
end Go.Proofs.YtihbebbabjklkaaGreatDoor.PA
