import Derived.Test.YtgihllbgjpcapaaGreatDoorCards
import Derived.Test.YtgihllbgjpcapaaGreatDoorTie
import Derived.Test.YtgihllbgjpcapaaGreatDoorAT1
import Derived.Test.YtgihllbgjpcapaaGreatDoorAG12
namespace Go.Proofs.YtgihllbgjpcapaaGreatDoor
open Go.ChangeShapes Go.WideShapes Go.ChangeAt Go.ChangeMaps Go.RowKit
set_option maxRecDepth 100000 in
theorem linearScales_lifted (os : Os) (started : os.Started) (H : Type) (enc : TypeId × Value → H) :
    ReturnsInHanded {} Tryz.checked os 5 .any (fun w args => (Rows.linearScalesSpec.pre enc Tryz.prog Tryz.f5 [] false w args ∧ laidMetH Tryz.prog Rows.linearScalesRow.laid w) ∧ sizedMet enc Tryz.prog Tryz.f5 (OpenSpec.ofChange Rows.linearScalesSpec) false w args)
      (Rows.linearScalesSpec.post enc Tryz.prog Tryz.f5 false true false false) := by
  refine returnsInHanded_of_change_and (C := Tryz.checked) (X := fun w _ => laidMetH Tryz.prog Rows.linearScalesRow.laid w) (fun _ _ _ hh h => h.of_heap hh) Rb.own started (by kernel_rfl) Tryz.func5
    (ChangeSpec.witness_shaped (enc := enc) (C := Tryz.checked) (os := os) (X := fun w _ => laidMetH Tryz.prog Rows.linearScalesRow.laid w) false (World.laidAll Tryz.prog os Rb.laid) #[.agg #[.slice none 0 0, .string ⟨#[]⟩], .string ⟨#[]⟩, .slice none 0 0] 8 (World.laidAll_os _ _ _)
      (Rb.shaped os _) (by kernel_rfl) (by kernel_rfl) (by kernel_rfl) (Rb.met os _)) ?_
  intro W base args ds gs before hval0 hW _ _ hL _
  have hval : ∀ (j : Nat) t v, Tryz.f5.params[j]? = some t → args[j]? = some v → Value.okWide Tryz.prog W .any base t v := hval0
  have hW' := hW
  obtain ⟨p, q, hA0, hV, rfl, _, _⟩ := hW
  have hA : DataW.TrodAll enc Tryz.prog W 0 (fun _ => true) true Tryz.f5.params.toList args.toList ds p := hA0
  rw [Tryz.params5] at hA hval
  have hlt : ∀ x ∈ p, x.block < W.heap.size := fun x hx => by simpa using hW'.lt x (by first | exact hx | exact List.mem_append_left _ hx)
  obtain ⟨v0, v1, v2, d0, d1, d2, p0, p1, p2, rfl, rfl, rfl, h0, h1, h2⟩ := trodAll_three hA
  obtain ⟨rfl, rfl⟩ := trodVars_none hV
  have h0k := h0
  obtain ⟨A0, c0, l0, s0, rfl, w0, C0⟩ := Ro.opLn Tryz.underlying25 Tryz.underlying22 Tryz.underlying23 Tryz.underlying23 (by kernel_rfl) (by kernel_rfl) (by kernel_rfl) (by kernel_rfl) (hval 0 25 v0 rfl rfl) h0
  obtain ⟨s1, rfl, rfl, rfl, z1⟩ := open_string Tryz.underlying23 (hval 1 23 v1 rfl rfl) h1
  have h2k := h2
  obtain ⟨A2, c2, l2, rfl, w2, C2⟩ := Ro.opSl Tryz.underlying22 Tryz.underlying23 (by kernel_rfl) (hval 2 22 v2 rfl rfl) h2
  simp only [List.append_nil] at hW'
  refine (PA.LinScales_true A0 c0 l0 s0 s1 A2 c2 l2 W (Rb.of_laid hL) w0 ⟨C0⟩ w2 ⟨C2⟩).mono fun e W' ⟨he, hb⟩ => ?_
  subst he
  exact ⟨_, rfl, _, _, _, [], _, [], hW', trodAll_mk1 (shut_bool Tryz.underlying4 _), trodAll_mk3 (Below.trod Ro.laidOut (by kernel_rfl) (of_decide_eq_true (by kernel_rfl)) h0k hb fun x hx => hlt x (List.mem_append_left _ (List.mem_append_left _ (hx)))) (shut_string Tryz.underlying23 z1) (Below.trod Ro.laidOut (by kernel_rfl) (of_decide_eq_true (by kernel_rfl)) h2k hb fun x hx => hlt x (List.mem_append_right _ (hx))), rfl, hb.frame _, fun h => by cases h⟩
theorem linearScales_name : Tryz.prog.funcNamed "surveyor/surveyorlaw03.LinearScales" = some 5 := by kernel_rfl
theorem linearScales_c0 : Rows.linearScalesRow.wf (OpenSpec.ofChange Rows.linearScalesSpec) = true := by kernel_rfl
theorem linearScales_c1 : laidOutB Tryz.prog = true := by kernel_rfl
theorem linearScales_c2 : mapsRowed Tryz.prog = true := by kernel_rfl
theorem linearScales_c3 : Tryz.f5.params.all (Tryz.prog.readableRec ·) = true := by kernel_rfl
theorem linearScales_c4 : namedTie Tryz.prog Rows.linearScalesRow.named Rows.linearScalesSpec.vars = true := by kernel_rfl
theorem linearScales_c5 : (Rows.linearScalesRow.stops == []) = true := by kernel_rfl
theorem linearScales_c6 : (Tryz.prog.stops == []) = true := by kernel_rfl
theorem linearScales_c7 : (Rows.linearScalesRow.knobs == []) = true := by kernel_rfl
theorem linearScales_c8 : (Tryz.prog.stopKnobs == []) = true := by kernel_rfl
theorem linearScales_c9 : (Rows.linearScalesRow.inPlace == Tryz.prog.inPlace 5) = true := by kernel_rfl
theorem linearScales_c10 : (Rows.linearScalesRow.unfollowed == Tryz.prog.unfollowed 5) = true := by kernel_rfl
theorem linearScales_c11 : (Rows.linearScalesRow.recurses == Tryz.prog.recurses 5) = true := by kernel_rfl
theorem linearScales_c12 : (Rows.linearScalesRow.named == Tryz.prog.varsNamed 5) = true := by kernel_rfl
theorem linearScales_c13 : (Rows.linearScalesRow.maps == (Tryz.f5.params.toList ++ Rows.linearScalesSpec.plain.varTypes Tryz.prog).any (Tryz.prog.mapsRec ·)) = true := by kernel_rfl
theorem linearScales_c14 : (Rows.linearScalesRow.ifaces == (Tryz.f5.params.toList ++ Rows.linearScalesSpec.plain.varTypes Tryz.prog).any (Tryz.prog.ifacesRec ·)) = true := by kernel_rfl
theorem linearScales_c15 : (Rows.linearScalesRow.mapsOut == Tryz.prog.mapsAmong Tryz.f5.resultTypes.toList) = true := by kernel_rfl
theorem linearScales_c16 : (Rows.linearScalesRow.loops == (Tryz.f5.params.toList ++ Rows.linearScalesSpec.plain.varTypes Tryz.prog).any (Tryz.prog.loopsFrom ·)) = true := by kernel_rfl
theorem linearScales_c17 : (Rows.linearScalesRow.wideKeys == (Tryz.f5.params.toList ++ Rows.linearScalesSpec.plain.varTypes Tryz.prog ++ Tryz.f5.resultTypes.toList).any (Tryz.prog.wideKeysFrom ·)) = true := by kernel_rfl
theorem linearScales_c18 : Rows.linearScalesSpec.vars.all (Tryz.prog.varReadable ·) = true := by kernel_rfl
theorem linearScales_c19 : Tryz.f5.resultTypes.all (fun t => Tryz.prog.readableRec t && decide (t < Tryz.prog.types.size)) = true := by kernel_rfl
theorem linearScales_c20 : (Rows.linearScalesRow.ifacesOut == Tryz.f5.resultTypes.toList.any (Tryz.prog.ifacesRec ·)) = true := by kernel_rfl
theorem linearScales_c21 : (Rows.linearScalesRow.loopsOut == Tryz.f5.resultTypes.toList.any (Tryz.prog.loopsFrom ·)) = true := by kernel_rfl
theorem linearScales_c22 : (Rows.linearScalesRow.plainKeys == Tryz.prog.plainKeys) = true := by kernel_rfl
theorem linearScales_c23 : Rows.linearScalesRow.shortTexts.isNone = true := by kernel_rfl
theorem linearScales_c24 : Tryz.prog.stopsHeard = true := by kernel_rfl
theorem linearScales_c25 : Tryz.prog.mayEnter = true := by kernel_rfl
theorem linearScales_c26 : (Rows.linearScalesRow.lifted == Tryz.prog.liftsFinal) = true := by kernel_rfl
theorem linearScales_c27 : (Tryz.prog.make == some Rows.linearScalesRow.make) = true := by kernel_rfl
theorem linearScales_c28 : (Rows.linearScalesRow.kinds == (if Rows.linearScalesRow.domain.isEmpty then [] else Tryz.f5.params.toList.map fun t => match Tryz.prog.underlying t with | some (.int k) => some k | _ => none)) = true := by kernel_rfl
theorem linearScales_c29 : (Rows.linearScalesRow.pinned == Rows.linearScalesRow.pinnedBy) = true := by kernel_rfl
theorem linearScales_c30 : (Rows.linearScalesRow.veiled == (Tryz.f5.params.toList ++ Rows.linearScalesSpec.plain.varTypes Tryz.prog ++ Tryz.f5.resultTypes.toList).any (Tryz.prog.veiledRec ·)) = true := by kernel_rfl
theorem linearScales_c31 : Rows.linearScalesRow.veiledFits Tryz.prog Tryz.f5.params.toList (Tryz.f5.params.toList ++ Rows.linearScalesSpec.plain.varTypes Tryz.prog ++ Tryz.f5.resultTypes.toList) = true := by kernel_rfl
set_option maxRecDepth 100000 in
theorem linearScales_facts : joinedFacts Tryz.prog 5 Tryz.f5 Rows.linearScalesSpec Rows.linearScalesRow = true := by
  unfold joinedFacts
  exact Rb.and_ (Rb.and_ (Rb.and_ (Rb.and_ (Rb.and_ (Rb.and_ (Rb.and_ (Rb.and_ (Rb.and_ (Rb.and_ (Rb.and_ (Rb.and_ (Rb.and_ (Rb.and_ (Rb.and_ (Rb.and_ (Rb.and_ (Rb.and_ (Rb.and_ (Rb.and_ (Rb.and_ (Rb.and_ (Rb.and_ (Rb.and_ (Rb.and_ (Rb.and_ (Rb.and_ (Rb.and_ (Rb.and_ (Rb.and_ (Rb.and_ (linearScales_c0) linearScales_c1) linearScales_c2) linearScales_c3) linearScales_c4) linearScales_c5) linearScales_c6) linearScales_c7) linearScales_c8) linearScales_c9) linearScales_c10) linearScales_c11) linearScales_c12) linearScales_c13) linearScales_c14) linearScales_c15) linearScales_c16) linearScales_c17) linearScales_c18) linearScales_c19) linearScales_c20) linearScales_c21) linearScales_c22) linearScales_c23) linearScales_c24) linearScales_c25) linearScales_c26) linearScales_c27) linearScales_c28) linearScales_c29) linearScales_c30) linearScales_c31
theorem linearScales_inst : Tryz.f5.isInstance Tryz.pinned.checked.prog Rows.linearScalesRow.origin Rows.linearScalesRow.targs := of_decide_eq_true (by kernel_rfl)
theorem linearScales_wrap : Tryz.f5.isWrapper Tryz.pinned.checked.prog Rows.linearScalesRow.wrapper Rows.linearScalesRow.mainSum := by unfold Func.isWrapper; first | (rw [if_pos (by decide +kernel)]; kernel_rfl) | (rw [if_neg (by decide +kernel)]; exact ⟨rfl, rfl⟩)
theorem linearScales_row : Rows.LinearScalesSaid :=
  OpenClaim.holds_of_wide 5 Tryz.f5 rfl rfl rfl rfl rfl rfl rfl ⟨rfl, rfl, rfl, rfl, rfl⟩ rfl rfl rfl rfl rfl linearScales_name Tryz.func5 linearScales_facts linearScales_inst linearScales_wrap
    (fun os started H enc _ => linearScales_lifted os started H enc)
theorem linearScales_wf : Rows.linearScalesRow.wfByText (OpenSpec.ofChange Rows.linearScalesSpec) = true := by kernel_rfl
theorem linearScales_main : Tryz.pinned.checked.prog.mainIs = some (true, "aff9e78aeef47a1281ab7b7f84868ea84d778580fc1d5372a2f3aea51abd8a92".toList) := by kernel_rfl
theorem linearScales_goes : false = Rows.linearScalesRow.goesBy Tryz.pinned.checked.prog := by kernel_rfl
theorem linearScales_looks : true = Tryz.pinned.checked.prog.looks [] := by kernel_rfl
theorem linearScales_std : ([25,23,22].all fun u => !Tryz.prog.wantsStandIn u) = true := by kernel_rfl
theorem linearScales_at : ∀ f fn, Tryz.pinned.checked.prog.funcNamed Rows.linearScalesRow.func = some f → Tryz.pinned.checked.prog.funcs[f]? = some fn → true = Tryz.pinned.checked.prog.looks [] ∧ ∀ (j : Nat) t, fn.params[j]? = some t → Tryz.pinned.checked.prog.wantsStandIn t = false := fun f fn hf hfn => by
  obtain rfl : f = 5 := Option.some.inj (linearScales_name.symm.trans hf) |>.symm
  obtain rfl : fn = Tryz.f5 := (Option.some.inj (Tryz.func5.symm.trans hfn)).symm
  exact ⟨linearScales_looks, fun j t ht => by
    rw [Tryz.params5] at ht
    have hm : t ∈ [25,23,22] := by simpa using Array.mem_of_getElem? ht
    exact (show Tryz.prog.wantsStandIn t = false by simpa using List.all_eq_true.1 linearScales_std t hm)⟩
theorem linearScales_holds : Rows.LinearScalesCardSaid :=
  Claim7.holds_tied_plain_at .later [] [.data, .data, .data, .data, .sentinel, .sentinel, .pinned] true (true, "aff9e78aeef47a1281ab7b7f84868ea84d778580fc1d5372a2f3aea51abd8a92") true
    linearScales_row (fun _ h => by cases h) linearScales_wf (fun _ h => by cases h) linearScales_row_tie rfl ⟨rfl, rfl⟩ linearScales_main rfl linearScales_at linearScales_goes
#print axioms linearScales_holds
end Go.Proofs.YtgihllbgjpcapaaGreatDoor
