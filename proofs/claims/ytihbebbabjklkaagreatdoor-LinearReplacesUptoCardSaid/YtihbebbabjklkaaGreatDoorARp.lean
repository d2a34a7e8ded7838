import Derived.Test.YtihbebbabjklkaaGreatDoorCards
import Derived.Test.YtihbebbabjklkaaGreatDoorTie
import Derived.Test.YtihbebbabjklkaaGreatDoorAT1p
import Derived.Test.YtihbebbabjklkaaGreatDoorAG10
namespace Go.Proofs.YtihbebbabjklkaaGreatDoor
open Go.ChangeShapes Go.WideShapes Go.ChangeAt Go.ChangeMaps Go.RowKit
theorem linearReplacesUpto_reads (os : Os) {H : Type} (enc : TypeId × Value → H) : DataW.whole enc Tryz.prog ((World.laidAll Tryz.prog os Rb.laid).forCall (fun _ _ => 0) ⟨#[], #[.agg #[.slice none 0 0, .string ⟨#[]⟩], .agg #[.slice none 0 0, .string ⟨#[]⟩], .slice none 0 0], []⟩).memory Tryz.f5.params.toList Rows.linearReplacesSpec.vars false (#[.agg #[.slice none 0 0, .string ⟨#[]⟩], .agg #[.slice none 0 0, .string ⟨#[]⟩], .slice none 0 0] : Array Value).toList 8 = some ([.agg [.nil, .lit (.string [])], .agg [.nil, .lit (.string [])], .nil], [], []) := by kernel_rfl
set_option maxRecDepth 100000 in
theorem linearReplacesUpto_lifted (os : Os) (started : os.Started) (H : Type) (enc : TypeId × Value → H) (F : Stop.Interp) :
    ReturnsInHanded {} Tryz.checked os 5 .any ((Rows.OpenSpec.upto Rows.linearReplacesSpec).preRow enc Tryz.prog Tryz.f5 Rows.linearReplacesUptoRow.domain false Rows.linearReplacesUptoRow.laid) (((Rows.OpenSpec.upto Rows.linearReplacesSpec).at F).post enc Tryz.prog Tryz.f5 false true false false) := by
  refine returnsInHanded_of_row (C := Tryz.checked) (s := Rows.OpenSpec.upto Rows.linearReplacesSpec) Rb.own started (by kernel_rfl) Tryz.func5
    (Ro.witness (enc := enc) (C := Tryz.checked) (World.laidAll Tryz.prog os Rb.laid) #[.agg #[.slice none 0 0, .string ⟨#[]⟩], .agg #[.slice none 0 0, .string ⟨#[]⟩], .slice none 0 0] (World.laidAll_os _ _ _) (Rb.shaped os _) (by kernel_rfl)
      (OpenSpec.preRow_of_cond 8 (linearReplacesUpto_reads os enc) (by kernel_rfl) (fun k hk => by cases hk; kernel_rfl) (by kernel_rfl) (Rb.met os _))) ?_
  intro W base args ds gs before hval0 hW0 _ hcond _ hL _ _
  have hk : Rows.uptoSmall H (ds ++ gs) = true := hcond _ rfl
  have hW : DataW.Whole enc Tryz.prog Tryz.f5.params.toList Rows.linearReplacesSpec.vars false W args.toList ds gs before := hW0
  have hval : ∀ (j : Nat) t v, Tryz.f5.params[j]? = some t → args[j]? = some v → Value.okWide Tryz.prog W .any base t v := hval0
  have hW' := hW
  obtain ⟨p, q, hA0, hV, rfl, _, _⟩ := hW
  have hA : DataW.TrodAll enc Tryz.prog W 0 (fun _ => true) true Tryz.f5.params.toList args.toList ds p := hA0
  rw [Tryz.params5] at hA hval
  have hlt : ∀ x ∈ p, x.block < W.heap.size := fun x hx => by simpa using hW'.lt x (by first | exact hx | exact List.mem_append_left _ hx)
  obtain ⟨v0, v1, v2, d0, d1, d2, p0, p1, p2, rfl, rfl, rfl, h0, h1, h2⟩ := trodAll_three hA
  obtain ⟨rfl, rfl⟩ := trodVars_none hV
  have h0k := h0
  obtain ⟨A0, c0, l0, s0, rfl, w0, C0, b0, g0⟩ := Ro.opLnU Tryz.underlying25 Tryz.underlying22 Tryz.underlying23 Tryz.underlying23 (by kernel_rfl) (by kernel_rfl) (by kernel_rfl) (by kernel_rfl) (hval 0 25 v0 rfl rfl) h0
  have h1k := h1
  obtain ⟨A1, c1, l1, s1, rfl, w1, C1, b1, g1⟩ := Ro.opLnU Tryz.underlying25 Tryz.underlying22 Tryz.underlying23 Tryz.underlying23 (by kernel_rfl) (by kernel_rfl) (by kernel_rfl) (by kernel_rfl) (hval 1 25 v1 rfl rfl) h1
  have h2k := h2
  obtain ⟨A2, c2, l2, rfl, w2, C2, b2⟩ := Ro.opSlU Tryz.underlying22 Tryz.underlying23 (by kernel_rfl) (hval 2 22 v2 rfl rfl) h2
  simp only [List.append_nil] at hW'
  refine (PA.LinReplaces_true A0 c0 l0 s0 A1 c1 l1 s1 A2 c2 l2 W (Rb.of_laid hL) w0 ⟨C0⟩ w1 ⟨C1⟩ w2 ⟨C2⟩ ⟨fun s hs => Ro.bound_at hk (by simp) (b0 s hs), Ro.bound_at hk (by simp) g0⟩ ⟨fun s hs => Ro.bound_at hk (by simp) (b1 s hs), Ro.bound_at hk (by simp) g1⟩ (fun s hs => Ro.bound_at hk (by simp) (b2 s hs))).mono fun e W' ⟨he, hb⟩ => ?_
  subst he
  refine ⟨_, rfl, ?_⟩
  show Rows.linearReplacesSpec.post enc Tryz.prog Tryz.f5 false true false false W _ _ W'
  exact ⟨_, _, _, [], _, [], hW', trodAll_mk1 (shut_bool Tryz.underlying4 _), trodAll_mk3 (Below.trod Ro.laidOut (by kernel_rfl) (of_decide_eq_true (by kernel_rfl)) h0k hb fun x hx => hlt x (List.mem_append_left _ (List.mem_append_left _ (hx)))) (Below.trod Ro.laidOut (by kernel_rfl) (of_decide_eq_true (by kernel_rfl)) h1k hb fun x hx => hlt x (List.mem_append_left _ (List.mem_append_right _ (hx)))) (Below.trod Ro.laidOut (by kernel_rfl) (of_decide_eq_true (by kernel_rfl)) h2k hb fun x hx => hlt x (List.mem_append_right _ (hx))), rfl, hb.frame _, fun h => by cases h⟩
theorem linearReplacesUpto_name : Tryz.prog.funcNamed "surveyor/surveyorlaw03.LinearReplaces" = some 5 := by kernel_rfl
theorem linearReplacesUpto_c0 : Rows.linearReplacesUptoRow.wf (OpenSpec.ofChange (Rows.OpenSpec.upto Rows.linearReplacesSpec).bare) = true := by kernel_rfl
theorem linearReplacesUpto_c1 : laidOutB Tryz.prog = true := by kernel_rfl
theorem linearReplacesUpto_c2 : mapsRowed Tryz.prog = true := by kernel_rfl
theorem linearReplacesUpto_c3 : Tryz.f5.params.all (Tryz.prog.readableRec ·) = true := by kernel_rfl
theorem linearReplacesUpto_c4 : namedTie Tryz.prog Rows.linearReplacesUptoRow.named Rows.linearReplacesSpec.vars = true := by kernel_rfl
theorem linearReplacesUpto_c5 : (Rows.linearReplacesUptoRow.stops == []) = true := by kernel_rfl
theorem linearReplacesUpto_c6 : (Tryz.prog.stops == []) = true := by kernel_rfl
theorem linearReplacesUpto_c7 : (Rows.linearReplacesUptoRow.knobs == []) = true := by kernel_rfl
theorem linearReplacesUpto_c8 : (Tryz.prog.stopKnobs == []) = true := by kernel_rfl
theorem linearReplacesUpto_c9 : (Rows.linearReplacesUptoRow.inPlace == Tryz.prog.inPlace 5) = true := by kernel_rfl
theorem linearReplacesUpto_c10 : (Rows.linearReplacesUptoRow.unfollowed == Tryz.prog.unfollowed 5) = true := by kernel_rfl
theorem linearReplacesUpto_c11 : (Rows.linearReplacesUptoRow.recurses == Tryz.prog.recurses 5) = true := by kernel_rfl
theorem linearReplacesUpto_c12 : (Rows.linearReplacesUptoRow.named == Tryz.prog.varsNamed 5) = true := by kernel_rfl
theorem linearReplacesUpto_c13 : (Rows.linearReplacesUptoRow.maps == (Tryz.f5.params.toList ++ Rows.linearReplacesSpec.plain.varTypes Tryz.prog).any (Tryz.prog.mapsRec ·)) = true := by kernel_rfl
theorem linearReplacesUpto_c14 : (Rows.linearReplacesUptoRow.ifaces == (Tryz.f5.params.toList ++ Rows.linearReplacesSpec.plain.varTypes Tryz.prog).any (Tryz.prog.ifacesRec ·)) = true := by kernel_rfl
theorem linearReplacesUpto_c15 : (Rows.linearReplacesUptoRow.mapsOut == Tryz.prog.mapsAmong Tryz.f5.resultTypes.toList) = true := by kernel_rfl
theorem linearReplacesUpto_c16 : (Rows.linearReplacesUptoRow.loops == (Tryz.f5.params.toList ++ Rows.linearReplacesSpec.plain.varTypes Tryz.prog).any (Tryz.prog.loopsFrom ·)) = true := by kernel_rfl
theorem linearReplacesUpto_c17 : (Rows.linearReplacesUptoRow.wideKeys == (Tryz.f5.params.toList ++ Rows.linearReplacesSpec.plain.varTypes Tryz.prog ++ Tryz.f5.resultTypes.toList).any (Tryz.prog.wideKeysFrom ·)) = true := by kernel_rfl
theorem linearReplacesUpto_c18 : Rows.linearReplacesSpec.vars.all (Tryz.prog.varReadable ·) = true := by kernel_rfl
theorem linearReplacesUpto_c19 : Tryz.f5.resultTypes.all (fun t => Tryz.prog.readableRec t && decide (t < Tryz.prog.types.size)) = true := by kernel_rfl
theorem linearReplacesUpto_c20 : (Rows.linearReplacesUptoRow.ifacesOut == Tryz.f5.resultTypes.toList.any (Tryz.prog.ifacesRec ·)) = true := by kernel_rfl
theorem linearReplacesUpto_c21 : (Rows.linearReplacesUptoRow.loopsOut == Tryz.f5.resultTypes.toList.any (Tryz.prog.loopsFrom ·)) = true := by kernel_rfl
theorem linearReplacesUpto_c22 : (Rows.linearReplacesUptoRow.plainKeys == Tryz.prog.plainKeys) = true := by kernel_rfl
theorem linearReplacesUpto_c23 : Rows.linearReplacesUptoRow.shortTexts.isNone = true := by kernel_rfl
theorem linearReplacesUpto_c24 : Tryz.prog.stopsHeard = true := by kernel_rfl
theorem linearReplacesUpto_c25 : Tryz.prog.mayEnter = true := by kernel_rfl
theorem linearReplacesUpto_c26 : (Rows.linearReplacesUptoRow.lifted == Tryz.prog.liftsFinal) = true := by kernel_rfl
theorem linearReplacesUpto_c27 : (Tryz.prog.make == some Rows.linearReplacesUptoRow.make) = true := by kernel_rfl
theorem linearReplacesUpto_c28 : (Rows.linearReplacesUptoRow.kinds == (if Rows.linearReplacesUptoRow.domain.isEmpty then [] else Tryz.f5.params.toList.map fun t => match Tryz.prog.underlying t with | some (.int k) => some k | _ => none)) = true := by kernel_rfl
theorem linearReplacesUpto_c29 : (Rows.linearReplacesUptoRow.pinned == Rows.linearReplacesUptoRow.pinnedBy) = true := by kernel_rfl
theorem linearReplacesUpto_c30 : (Rows.linearReplacesUptoRow.veiled == (Tryz.f5.params.toList ++ Rows.linearReplacesSpec.plain.varTypes Tryz.prog ++ Tryz.f5.resultTypes.toList).any (Tryz.prog.veiledRec ·)) = true := by kernel_rfl
theorem linearReplacesUpto_c31 : Rows.linearReplacesUptoRow.veiledFits Tryz.prog Tryz.f5.params.toList (Tryz.f5.params.toList ++ Rows.linearReplacesSpec.plain.varTypes Tryz.prog ++ Tryz.f5.resultTypes.toList) = true := by kernel_rfl
set_option maxRecDepth 100000 in
theorem linearReplacesUpto_facts : joinedFacts Tryz.prog 5 Tryz.f5 (Rows.OpenSpec.upto Rows.linearReplacesSpec).bare Rows.linearReplacesUptoRow = true := by
  unfold joinedFacts
  exact Rb.and_ (Rb.and_ (Rb.and_ (Rb.and_ (Rb.and_ (Rb.and_ (Rb.and_ (Rb.and_ (Rb.and_ (Rb.and_ (Rb.and_ (Rb.and_ (Rb.and_ (Rb.and_ (Rb.and_ (Rb.and_ (Rb.and_ (Rb.and_ (Rb.and_ (Rb.and_ (Rb.and_ (Rb.and_ (Rb.and_ (Rb.and_ (Rb.and_ (Rb.and_ (Rb.and_ (Rb.and_ (Rb.and_ (Rb.and_ (Rb.and_ (linearReplacesUpto_c0) linearReplacesUpto_c1) linearReplacesUpto_c2) linearReplacesUpto_c3) linearReplacesUpto_c4) linearReplacesUpto_c5) linearReplacesUpto_c6) linearReplacesUpto_c7) linearReplacesUpto_c8) linearReplacesUpto_c9) linearReplacesUpto_c10) linearReplacesUpto_c11) linearReplacesUpto_c12) linearReplacesUpto_c13) linearReplacesUpto_c14) linearReplacesUpto_c15) linearReplacesUpto_c16) linearReplacesUpto_c17) linearReplacesUpto_c18) linearReplacesUpto_c19) linearReplacesUpto_c20) linearReplacesUpto_c21) linearReplacesUpto_c22) linearReplacesUpto_c23) linearReplacesUpto_c24) linearReplacesUpto_c25) linearReplacesUpto_c26) linearReplacesUpto_c27) linearReplacesUpto_c28) linearReplacesUpto_c29) linearReplacesUpto_c30) linearReplacesUpto_c31
theorem linearReplacesUpto_inst : Tryz.f5.isInstance Tryz.pinned.checked.prog Rows.linearReplacesUptoRow.origin Rows.linearReplacesUptoRow.targs := of_decide_eq_true (by kernel_rfl)
theorem linearReplacesUpto_wrap : Tryz.f5.isWrapper Tryz.pinned.checked.prog Rows.linearReplacesUptoRow.wrapper Rows.linearReplacesUptoRow.mainSum := by unfold Func.isWrapper; first | (rw [if_pos (by decide +kernel)]; kernel_rfl) | (rw [if_neg (by decide +kernel)]; exact ⟨rfl, rfl⟩)
theorem linearReplacesUpto_row : Rows.LinearReplacesUptoSaid :=
  OpenClaim.holds_of_cond 5 Tryz.f5 rfl rfl rfl rfl rfl rfl rfl ⟨rfl, rfl, rfl, rfl, rfl⟩ rfl rfl rfl rfl rfl linearReplacesUpto_name Tryz.func5 linearReplacesUpto_facts linearReplacesUpto_inst linearReplacesUpto_wrap
    (fun os started H enc _ F => by rw [OpenClaim.pre_eq_preRow]; exact linearReplacesUpto_lifted os started H enc F)
theorem linearReplacesUpto_wf : Rows.linearReplacesUptoRow.wfByText (Rows.OpenSpec.upto Rows.linearReplacesSpec) = true := by kernel_rfl
theorem linearReplacesUpto_main : Tryz.pinned.checked.prog.mainIs = some (true, "94aa445f2dc9a68aa77f6d476013ea7e4907784a5936c6184f49e6badaa0e9d2".toList) := by kernel_rfl
theorem linearReplacesUpto_goes : false = Rows.linearReplacesUptoRow.goesBy Tryz.pinned.checked.prog := by kernel_rfl
theorem linearReplacesUpto_looks : true = Tryz.pinned.checked.prog.looks [] := by kernel_rfl
theorem linearReplacesUpto_std : ([25,25,22].all fun u => !Tryz.prog.wantsStandIn u) = true := by kernel_rfl
theorem linearReplacesUpto_at : ∀ f fn, Tryz.pinned.checked.prog.funcNamed Rows.linearReplacesUptoRow.func = some f → Tryz.pinned.checked.prog.funcs[f]? = some fn → true = Tryz.pinned.checked.prog.looks [] ∧ ∀ (j : Nat) t, fn.params[j]? = some t → Tryz.pinned.checked.prog.wantsStandIn t = false := fun f fn hf hfn => by
  obtain rfl : f = 5 := Option.some.inj (linearReplacesUpto_name.symm.trans hf) |>.symm
  obtain rfl : fn = Tryz.f5 := (Option.some.inj (Tryz.func5.symm.trans hfn)).symm
  exact ⟨linearReplacesUpto_looks, fun j t ht => by
    rw [Tryz.params5] at ht
    have hm : t ∈ [25,25,22] := by simpa using Array.mem_of_getElem? ht
    exact (show Tryz.prog.wantsStandIn t = false by simpa using List.all_eq_true.1 linearReplacesUpto_std t hm)⟩
theorem linearReplacesUpto_holds : Rows.LinearReplacesUptoCardSaid :=
  Claim7.holds_tied_plain_at .later [] [.data, .data, .data, .data, .sentinel, .sentinel, .pinned] true (true, "94aa445f2dc9a68aa77f6d476013ea7e4907784a5936c6184f49e6badaa0e9d2") true
    linearReplacesUpto_row (fun _ h => by cases h) linearReplacesUpto_wf (fun _ h => by cases h) linearReplacesUpto_row_tie rfl ⟨rfl, rfl⟩ linearReplacesUpto_main rfl linearReplacesUpto_at linearReplacesUpto_goes
#print axioms linearReplacesUpto_holds
end Go.Proofs.YtihbebbabjklkaaGreatDoor
