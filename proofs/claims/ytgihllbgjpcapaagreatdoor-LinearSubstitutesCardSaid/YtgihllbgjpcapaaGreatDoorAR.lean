import Derived.Test.YtgihllbgjpcapaaGreatDoorCards
import Derived.Test.YtgihllbgjpcapaaGreatDoorTie
import Derived.Test.YtgihllbgjpcapaaGreatDoorAT1
import Derived.Test.YtgihllbgjpcapaaGreatDoorAG12
namespace Go.Proofs.YtgihllbgjpcapaaGreatDoor
open Go.ChangeShapes Go.WideShapes Go.ChangeAt Go.ChangeMaps Go.RowKit
set_option maxRecDepth 100000 in
theorem linearSubstitutes_lifted (os : Os) (started : os.Started) (H : Type) (enc : TypeId × Value → H) :
    ReturnsInHanded {} Tryz.checked os 3 .any (fun w args => (Rows.linearSubstitutesSpec.pre enc Tryz.prog Tryz.f3 [] false w args ∧ laidMetH Tryz.prog Rows.linearSubstitutesRow.laid w) ∧ sizedMet enc Tryz.prog Tryz.f3 (OpenSpec.ofChange Rows.linearSubstitutesSpec) false w args)
      (Rows.linearSubstitutesSpec.post enc Tryz.prog Tryz.f3 false true false false) := by
  refine returnsInHanded_of_change_and (C := Tryz.checked) (X := fun w _ => laidMetH Tryz.prog Rows.linearSubstitutesRow.laid w) (fun _ _ _ hh h => h.of_heap hh) Rb.own started (by kernel_rfl) Tryz.func3
    (ChangeSpec.witness_shaped (enc := enc) (C := Tryz.checked) (os := os) (X := fun w _ => laidMetH Tryz.prog Rows.linearSubstitutesRow.laid w) false (World.laidAll Tryz.prog os Rb.laid) #[.agg #[.slice none 0 0, .string ⟨#[]⟩], .int .i64 0, .agg #[.slice none 0 0, .string ⟨#[]⟩]] 8 (World.laidAll_os _ _ _)
      (Rb.shaped os _) (by kernel_rfl) (by kernel_rfl) (by kernel_rfl) (Rb.met os _)) ?_
  intro W base args ds gs before hval0 hW _ _ hL _
  have hval : ∀ (j : Nat) t v, Tryz.f3.params[j]? = some t → args[j]? = some v → Value.okWide Tryz.prog W .any base t v := hval0
  have hW' := hW
  obtain ⟨p, q, hA0, hV, rfl, _, _⟩ := hW
  have hA : DataW.TrodAll enc Tryz.prog W 0 (fun _ => true) true Tryz.f3.params.toList args.toList ds p := hA0
  rw [Tryz.params3] at hA hval
  have hlt : ∀ x ∈ p, x.block < W.heap.size := fun x hx => by simpa using hW'.lt x (by first | exact hx | exact List.mem_append_left _ hx)
  obtain ⟨v0, v1, v2, d0, d1, d2, p0, p1, p2, rfl, rfl, rfl, h0, h1, h2⟩ := trodAll_three hA
  obtain ⟨rfl, rfl⟩ := trodVars_none hV
  have h0k := h0
  obtain ⟨A0, c0, l0, s0, rfl, w0, C0⟩ := Ro.opLn Tryz.underlying25 Tryz.underlying22 Tryz.underlying23 Tryz.underlying23 (by kernel_rfl) (by kernel_rfl) (by kernel_rfl) (by kernel_rfl) (hval 0 25 v0 rfl rfl) h0
  obtain ⟨i1, rfl, rfl, rfl, z1⟩ := open_int Tryz.underlying3 (hval 1 3 v1 rfl rfl) h1
  have h2k := h2
  obtain ⟨A2, c2, l2, s2, rfl, w2, C2⟩ := Ro.opLn Tryz.underlying25 Tryz.underlying22 Tryz.underlying23 Tryz.underlying23 (by kernel_rfl) (by kernel_rfl) (by kernel_rfl) (by kernel_rfl) (hval 2 25 v2 rfl rfl) h2
  simp only [List.append_nil] at hW'
  refine (PA.LinSubstitutes_true A0 c0 l0 s0 i1 A2 c2 l2 s2 W (Rb.of_laid hL) w0 ⟨C0⟩ w2 ⟨C2⟩).mono fun e W' ⟨he, hb⟩ => ?_
  subst he
  exact ⟨_, rfl, _, _, _, [], _, [], hW', trodAll_mk1 (shut_bool Tryz.underlying4 _), trodAll_mk3 (Below.trod Ro.laidOut (by kernel_rfl) (of_decide_eq_true (by kernel_rfl)) h0k hb fun x hx => hlt x (List.mem_append_left _ (List.mem_append_left _ (hx)))) (shut_int Tryz.underlying3 z1) (Below.trod Ro.laidOut (by kernel_rfl) (of_decide_eq_true (by kernel_rfl)) h2k hb fun x hx => hlt x (List.mem_append_right _ (hx))), rfl, hb.frame _, fun h => by cases h⟩
theorem linearSubstitutes_name : Tryz.prog.funcNamed "surveyor/surveyorlaw03.LinearSubstitutes" = some 3 := by kernel_rfl
theorem linearSubstitutes_c0 : Rows.linearSubstitutesRow.wf (OpenSpec.ofChange Rows.linearSubstitutesSpec) = true := by kernel_rfl
theorem linearSubstitutes_c1 : laidOutB Tryz.prog = true := by kernel_rfl
theorem linearSubstitutes_c2 : mapsRowed Tryz.prog = true := by kernel_rfl
theorem linearSubstitutes_c3 : Tryz.f3.params.all (Tryz.prog.readableRec ·) = true := by kernel_rfl
theorem linearSubstitutes_c4 : namedTie Tryz.prog Rows.linearSubstitutesRow.named Rows.linearSubstitutesSpec.vars = true := by kernel_rfl
theorem linearSubstitutes_c5 : (Rows.linearSubstitutesRow.stops == []) = true := by kernel_rfl
theorem linearSubstitutes_c6 : (Tryz.prog.stops == []) = true := by kernel_rfl
theorem linearSubstitutes_c7 : (Rows.linearSubstitutesRow.knobs == []) = true := by kernel_rfl
theorem linearSubstitutes_c8 : (Tryz.prog.stopKnobs == []) = true := by kernel_rfl
theorem linearSubstitutes_c9 : (Rows.linearSubstitutesRow.inPlace == Tryz.prog.inPlace 3) = true := by kernel_rfl
theorem linearSubstitutes_c10 : (Rows.linearSubstitutesRow.unfollowed == Tryz.prog.unfollowed 3) = true := by kernel_rfl
theorem linearSubstitutes_c11 : (Rows.linearSubstitutesRow.recurses == Tryz.prog.recurses 3) = true := by kernel_rfl
theorem linearSubstitutes_c12 : (Rows.linearSubstitutesRow.named == Tryz.prog.varsNamed 3) = true := by kernel_rfl
theorem linearSubstitutes_c13 : (Rows.linearSubstitutesRow.maps == (Tryz.f3.params.toList ++ Rows.linearSubstitutesSpec.plain.varTypes Tryz.prog).any (Tryz.prog.mapsRec ·)) = true := by kernel_rfl
theorem linearSubstitutes_c14 : (Rows.linearSubstitutesRow.ifaces == (Tryz.f3.params.toList ++ Rows.linearSubstitutesSpec.plain.varTypes Tryz.prog).any (Tryz.prog.ifacesRec ·)) = true := by kernel_rfl
theorem linearSubstitutes_c15 : (Rows.linearSubstitutesRow.mapsOut == Tryz.prog.mapsAmong Tryz.f3.resultTypes.toList) = true := by kernel_rfl
theorem linearSubstitutes_c16 : (Rows.linearSubstitutesRow.loops == (Tryz.f3.params.toList ++ Rows.linearSubstitutesSpec.plain.varTypes Tryz.prog).any (Tryz.prog.loopsFrom ·)) = true := by kernel_rfl
theorem linearSubstitutes_c17 : (Rows.linearSubstitutesRow.wideKeys == (Tryz.f3.params.toList ++ Rows.linearSubstitutesSpec.plain.varTypes Tryz.prog ++ Tryz.f3.resultTypes.toList).any (Tryz.prog.wideKeysFrom ·)) = true := by kernel_rfl
theorem linearSubstitutes_c18 : Rows.linearSubstitutesSpec.vars.all (Tryz.prog.varReadable ·) = true := by kernel_rfl
theorem linearSubstitutes_c19 : Tryz.f3.resultTypes.all (fun t => Tryz.prog.readableRec t && decide (t < Tryz.prog.types.size)) = true := by kernel_rfl
theorem linearSubstitutes_c20 : (Rows.linearSubstitutesRow.ifacesOut == Tryz.f3.resultTypes.toList.any (Tryz.prog.ifacesRec ·)) = true := by kernel_rfl
theorem linearSubstitutes_c21 : (Rows.linearSubstitutesRow.loopsOut == Tryz.f3.resultTypes.toList.any (Tryz.prog.loopsFrom ·)) = true := by kernel_rfl
theorem linearSubstitutes_c22 : (Rows.linearSubstitutesRow.plainKeys == Tryz.prog.plainKeys) = true := by kernel_rfl
theorem linearSubstitutes_c23 : Rows.linearSubstitutesRow.shortTexts.isNone = true := by kernel_rfl
theorem linearSubstitutes_c24 : Tryz.prog.stopsHeard = true := by kernel_rfl
theorem linearSubstitutes_c25 : Tryz.prog.mayEnter = true := by kernel_rfl
theorem linearSubstitutes_c26 : (Rows.linearSubstitutesRow.lifted == Tryz.prog.liftsFinal) = true := by kernel_rfl
theorem linearSubstitutes_c27 : (Tryz.prog.make == some Rows.linearSubstitutesRow.make) = true := by kernel_rfl
theorem linearSubstitutes_c28 : (Rows.linearSubstitutesRow.kinds == (if Rows.linearSubstitutesRow.domain.isEmpty then [] else Tryz.f3.params.toList.map fun t => match Tryz.prog.underlying t with | some (.int k) => some k | _ => none)) = true := by kernel_rfl
theorem linearSubstitutes_c29 : (Rows.linearSubstitutesRow.pinned == Rows.linearSubstitutesRow.pinnedBy) = true := by kernel_rfl
theorem linearSubstitutes_c30 : (Rows.linearSubstitutesRow.veiled == (Tryz.f3.params.toList ++ Rows.linearSubstitutesSpec.plain.varTypes Tryz.prog ++ Tryz.f3.resultTypes.toList).any (Tryz.prog.veiledRec ·)) = true := by kernel_rfl
theorem linearSubstitutes_c31 : Rows.linearSubstitutesRow.veiledFits Tryz.prog Tryz.f3.params.toList (Tryz.f3.params.toList ++ Rows.linearSubstitutesSpec.plain.varTypes Tryz.prog ++ Tryz.f3.resultTypes.toList) = true := by kernel_rfl
set_option maxRecDepth 100000 in
theorem linearSubstitutes_facts : joinedFacts Tryz.prog 3 Tryz.f3 Rows.linearSubstitutesSpec Rows.linearSubstitutesRow = true := by
  unfold joinedFacts
  exact Rb.and_ (Rb.and_ (Rb.and_ (Rb.and_ (Rb.and_ (Rb.and_ (Rb.and_ (Rb.and_ (Rb.and_ (Rb.and_ (Rb.and_ (Rb.and_ (Rb.and_ (Rb.and_ (Rb.and_ (Rb.and_ (Rb.and_ (Rb.and_ (Rb.and_ (Rb.and_ (Rb.and_ (Rb.and_ (Rb.and_ (Rb.and_ (Rb.and_ (Rb.and_ (Rb.and_ (Rb.and_ (Rb.and_ (Rb.and_ (Rb.and_ (linearSubstitutes_c0) linearSubstitutes_c1) linearSubstitutes_c2) linearSubstitutes_c3) linearSubstitutes_c4) linearSubstitutes_c5) linearSubstitutes_c6) linearSubstitutes_c7) linearSubstitutes_c8) linearSubstitutes_c9) linearSubstitutes_c10) linearSubstitutes_c11) linearSubstitutes_c12) linearSubstitutes_c13) linearSubstitutes_c14) linearSubstitutes_c15) linearSubstitutes_c16) linearSubstitutes_c17) linearSubstitutes_c18) linearSubstitutes_c19) linearSubstitutes_c20) linearSubstitutes_c21) linearSubstitutes_c22) linearSubstitutes_c23) linearSubstitutes_c24) linearSubstitutes_c25) linearSubstitutes_c26) linearSubstitutes_c27) linearSubstitutes_c28) linearSubstitutes_c29) linearSubstitutes_c30) linearSubstitutes_c31
theorem linearSubstitutes_inst : Tryz.f3.isInstance Tryz.pinned.checked.prog Rows.linearSubstitutesRow.origin Rows.linearSubstitutesRow.targs := of_decide_eq_true (by kernel_rfl)
theorem linearSubstitutes_wrap : Tryz.f3.isWrapper Tryz.pinned.checked.prog Rows.linearSubstitutesRow.wrapper Rows.linearSubstitutesRow.mainSum := by unfold Func.isWrapper; first | (rw [if_pos (by decide +kernel)]; kernel_rfl) | (rw [if_neg (by decide +kernel)]; exact ⟨rfl, rfl⟩)
theorem linearSubstitutes_row : Rows.LinearSubstitutesSaid :=
  OpenClaim.holds_of_wide 3 Tryz.f3 rfl rfl rfl rfl rfl rfl rfl ⟨rfl, rfl, rfl, rfl, rfl⟩ rfl rfl rfl rfl rfl linearSubstitutes_name Tryz.func3 linearSubstitutes_facts linearSubstitutes_inst linearSubstitutes_wrap
    (fun os started H enc _ => linearSubstitutes_lifted os started H enc)
theorem linearSubstitutes_wf : Rows.linearSubstitutesRow.wfByText (OpenSpec.ofChange Rows.linearSubstitutesSpec) = true := by kernel_rfl
theorem linearSubstitutes_main : Tryz.pinned.checked.prog.mainIs = some (true, "aff9e78aeef47a1281ab7b7f84868ea84d778580fc1d5372a2f3aea51abd8a92".toList) := by kernel_rfl
theorem linearSubstitutes_goes : false = Rows.linearSubstitutesRow.goesBy Tryz.pinned.checked.prog := by kernel_rfl
theorem linearSubstitutes_looks : true = Tryz.pinned.checked.prog.looks [] := by kernel_rfl
theorem linearSubstitutes_std : ([25,3,25].all fun u => !Tryz.prog.wantsStandIn u) = true := by kernel_rfl
theorem linearSubstitutes_at : ∀ f fn, Tryz.pinned.checked.prog.funcNamed Rows.linearSubstitutesRow.func = some f → Tryz.pinned.checked.prog.funcs[f]? = some fn → true = Tryz.pinned.checked.prog.looks [] ∧ ∀ (j : Nat) t, fn.params[j]? = some t → Tryz.pinned.checked.prog.wantsStandIn t = false := fun f fn hf hfn => by
  obtain rfl : f = 3 := Option.some.inj (linearSubstitutes_name.symm.trans hf) |>.symm
  obtain rfl : fn = Tryz.f3 := (Option.some.inj (Tryz.func3.symm.trans hfn)).symm
  exact ⟨linearSubstitutes_looks, fun j t ht => by
    rw [Tryz.params3] at ht
    have hm : t ∈ [25,3,25] := by simpa using Array.mem_of_getElem? ht
    exact (show Tryz.prog.wantsStandIn t = false by simpa using List.all_eq_true.1 linearSubstitutes_std t hm)⟩
theorem linearSubstitutes_holds : Rows.LinearSubstitutesCardSaid :=
  Claim7.holds_tied_plain_at .later [] [.data, .data, .data, .data, .sentinel, .sentinel, .pinned] true (true, "aff9e78aeef47a1281ab7b7f84868ea84d778580fc1d5372a2f3aea51abd8a92") true
    linearSubstitutes_row (fun _ h => by cases h) linearSubstitutes_wf (fun _ h => by cases h) linearSubstitutes_row_tie rfl ⟨rfl, rfl⟩ linearSubstitutes_main rfl linearSubstitutes_at linearSubstitutes_goes
#print axioms linearSubstitutes_holds
end Go.Proofs.YtgihllbgjpcapaaGreatDoor
