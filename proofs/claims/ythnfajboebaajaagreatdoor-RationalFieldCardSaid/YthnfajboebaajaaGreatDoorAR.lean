import Derived.Test.YthnfajboebaajaaGreatDoorCards
import Derived.Test.YthnfajboebaajaaGreatDoorTie
import Derived.Test.YthnfajboebaajaaGreatDoorAG12
import Derived.Test.YthnfajboebaajaaGreatDoorAP2
namespace Go.Proofs.YthnfajboebaajaaGreatDoor
open Go.ChangeShapes Go.WideShapes Go.ChangeAt Go.ChangeMaps Go.RowKit
set_option maxRecDepth 100000 in
theorem rationalField_lifted (os : Os) (started : os.Started) (H : Type) (enc : TypeId × Value → H) :
    ReturnsInHanded {} Tryz.checked os 10 .any (fun w args => (Rows.rationalFieldSpec.pre enc Tryz.prog Tryz.f10 [] false w args ∧ laidMetH Tryz.prog Rows.rationalFieldRow.laid w) ∧ sizedMet enc Tryz.prog Tryz.f10 (OpenSpec.ofChange Rows.rationalFieldSpec) false w args)
      (Rows.rationalFieldSpec.post enc Tryz.prog Tryz.f10 false true false false) := by
  refine returnsInHanded_of_change_and (C := Tryz.checked) (X := fun w _ => laidMetH Tryz.prog Rows.rationalFieldRow.laid w) (fun _ _ _ hh h => h.of_heap hh) Rb.own started (by kernel_rfl) Tryz.func10
    (ChangeSpec.witness_shaped (enc := enc) (C := Tryz.checked) (os := os) (X := fun w _ => laidMetH Tryz.prog Rows.rationalFieldRow.laid w) false (World.laidAll Tryz.prog os Rb.laid) #[.string ⟨#[]⟩, .string ⟨#[]⟩, .string ⟨#[]⟩] 8 (World.laidAll_os _ _ _)
      (Rb.shaped os _) (by kernel_rfl) (by kernel_rfl) (by kernel_rfl) (Rb.met os _)) ?_
  intro W base args ds gs before hval0 hW _ _ hL _
  have hval : ∀ (j : Nat) t v, Tryz.f10.params[j]? = some t → args[j]? = some v → Value.okWide Tryz.prog W .any base t v := hval0
  have hW' := hW
  obtain ⟨p, q, hA0, hV, rfl, _, _⟩ := hW
  have hA : DataW.TrodAll enc Tryz.prog W 0 (fun _ => true) true Tryz.f10.params.toList args.toList ds p := hA0
  rw [Tryz.params10] at hA hval
  obtain ⟨v0, v1, v2, d0, d1, d2, p0, p1, p2, rfl, rfl, rfl, h0, h1, h2⟩ := trodAll_three hA
  obtain ⟨rfl, rfl⟩ := trodVars_none hV
  obtain ⟨s0, rfl, rfl, rfl, z0⟩ := open_string Tryz.underlying22 (hval 0 22 v0 rfl rfl) h0
  obtain ⟨s1, rfl, rfl, rfl, z1⟩ := open_string Tryz.underlying22 (hval 1 22 v1 rfl rfl) h1
  obtain ⟨s2, rfl, rfl, rfl, z2⟩ := open_string Tryz.underlying22 (hval 2 22 v2 rfl rfl) h2
  simp only [List.append_nil] at hW'
  obtain ⟨k, hk⟩ := PA.Field_true s0 s1 s2
  refine (PA.lWRationalField.calls k s0 s1 s2 true W (Rb.of_laid hL) hk).mono fun e W' ⟨he, hb⟩ => ?_
  subst he
  exact ⟨_, rfl, _, _, _, [], [], [], hW', trodAll_mk1 (shut_bool Tryz.underlying4 _), trodAll_mk3 (shut_string Tryz.underlying22 z0) (shut_string Tryz.underlying22 z1) (shut_string Tryz.underlying22 z2), rfl, hb.frame _, fun h => by cases h⟩
theorem rationalField_name : Tryz.prog.funcNamed "surveyor/surveyorlaw02.RationalField" = some 10 := by kernel_rfl
theorem rationalField_c0 : Rows.rationalFieldRow.wf (OpenSpec.ofChange Rows.rationalFieldSpec) = true := by kernel_rfl
theorem rationalField_c1 : laidOutB Tryz.prog = true := by kernel_rfl
theorem rationalField_c2 : mapsRowed Tryz.prog = true := by kernel_rfl
theorem rationalField_c3 : Tryz.f10.params.all (Tryz.prog.readableRec ·) = true := by kernel_rfl
theorem rationalField_c4 : namedTie Tryz.prog Rows.rationalFieldRow.named Rows.rationalFieldSpec.vars = true := by kernel_rfl
theorem rationalField_c5 : (Rows.rationalFieldRow.stops == []) = true := by kernel_rfl
theorem rationalField_c6 : (Tryz.prog.stops == []) = true := by kernel_rfl
theorem rationalField_c7 : (Rows.rationalFieldRow.knobs == []) = true := by kernel_rfl
theorem rationalField_c8 : (Tryz.prog.stopKnobs == []) = true := by kernel_rfl
theorem rationalField_c9 : (Rows.rationalFieldRow.inPlace == Tryz.prog.inPlace 10) = true := by kernel_rfl
theorem rationalField_c10 : (Rows.rationalFieldRow.unfollowed == Tryz.prog.unfollowed 10) = true := by kernel_rfl
theorem rationalField_c11 : (Rows.rationalFieldRow.recurses == Tryz.prog.recurses 10) = true := by kernel_rfl
theorem rationalField_c12 : (Rows.rationalFieldRow.named == Tryz.prog.varsNamed 10) = true := by kernel_rfl
theorem rationalField_c13 : (Rows.rationalFieldRow.maps == (Tryz.f10.params.toList ++ Rows.rationalFieldSpec.plain.varTypes Tryz.prog).any (Tryz.prog.mapsRec ·)) = true := by kernel_rfl
theorem rationalField_c14 : (Rows.rationalFieldRow.ifaces == (Tryz.f10.params.toList ++ Rows.rationalFieldSpec.plain.varTypes Tryz.prog).any (Tryz.prog.ifacesRec ·)) = true := by kernel_rfl
theorem rationalField_c15 : (Rows.rationalFieldRow.mapsOut == Tryz.prog.mapsAmong Tryz.f10.resultTypes.toList) = true := by kernel_rfl
theorem rationalField_c16 : (Rows.rationalFieldRow.loops == (Tryz.f10.params.toList ++ Rows.rationalFieldSpec.plain.varTypes Tryz.prog).any (Tryz.prog.loopsFrom ·)) = true := by kernel_rfl
theorem rationalField_c17 : (Rows.rationalFieldRow.wideKeys == (Tryz.f10.params.toList ++ Rows.rationalFieldSpec.plain.varTypes Tryz.prog ++ Tryz.f10.resultTypes.toList).any (Tryz.prog.wideKeysFrom ·)) = true := by kernel_rfl
theorem rationalField_c18 : Rows.rationalFieldSpec.vars.all (Tryz.prog.varReadable ·) = true := by kernel_rfl
theorem rationalField_c19 : Tryz.f10.resultTypes.all (fun t => Tryz.prog.readableRec t && decide (t < Tryz.prog.types.size)) = true := by kernel_rfl
theorem rationalField_c20 : (Rows.rationalFieldRow.ifacesOut == Tryz.f10.resultTypes.toList.any (Tryz.prog.ifacesRec ·)) = true := by kernel_rfl
theorem rationalField_c21 : (Rows.rationalFieldRow.loopsOut == Tryz.f10.resultTypes.toList.any (Tryz.prog.loopsFrom ·)) = true := by kernel_rfl
theorem rationalField_c22 : (Rows.rationalFieldRow.plainKeys == Tryz.prog.plainKeys) = true := by kernel_rfl
theorem rationalField_c23 : Rows.rationalFieldRow.shortTexts.isNone = true := by kernel_rfl
theorem rationalField_c24 : Tryz.prog.stopsHeard = true := by kernel_rfl
theorem rationalField_c25 : Tryz.prog.mayEnter = true := by kernel_rfl
theorem rationalField_c26 : (Rows.rationalFieldRow.lifted == Tryz.prog.liftsFinal) = true := by kernel_rfl
theorem rationalField_c27 : (Tryz.prog.make == some Rows.rationalFieldRow.make) = true := by kernel_rfl
theorem rationalField_c28 : (Rows.rationalFieldRow.kinds == (if Rows.rationalFieldRow.domain.isEmpty then [] else Tryz.f10.params.toList.map fun t => match Tryz.prog.underlying t with | some (.int k) => some k | _ => none)) = true := by kernel_rfl
theorem rationalField_c29 : (Rows.rationalFieldRow.pinned == Rows.rationalFieldRow.pinnedBy) = true := by kernel_rfl
theorem rationalField_c30 : (Rows.rationalFieldRow.veiled == (Tryz.f10.params.toList ++ Rows.rationalFieldSpec.plain.varTypes Tryz.prog ++ Tryz.f10.resultTypes.toList).any (Tryz.prog.veiledRec ·)) = true := by kernel_rfl
theorem rationalField_c31 : Rows.rationalFieldRow.veiledFits Tryz.prog Tryz.f10.params.toList (Tryz.f10.params.toList ++ Rows.rationalFieldSpec.plain.varTypes Tryz.prog ++ Tryz.f10.resultTypes.toList) = true := by kernel_rfl
set_option maxRecDepth 100000 in
theorem rationalField_facts : joinedFacts Tryz.prog 10 Tryz.f10 Rows.rationalFieldSpec Rows.rationalFieldRow = true := by
  unfold joinedFacts
  exact Rb.and_ (Rb.and_ (Rb.and_ (Rb.and_ (Rb.and_ (Rb.and_ (Rb.and_ (Rb.and_ (Rb.and_ (Rb.and_ (Rb.and_ (Rb.and_ (Rb.and_ (Rb.and_ (Rb.and_ (Rb.and_ (Rb.and_ (Rb.and_ (Rb.and_ (Rb.and_ (Rb.and_ (Rb.and_ (Rb.and_ (Rb.and_ (Rb.and_ (Rb.and_ (Rb.and_ (Rb.and_ (Rb.and_ (Rb.and_ (Rb.and_ (rationalField_c0) rationalField_c1) rationalField_c2) rationalField_c3) rationalField_c4) rationalField_c5) rationalField_c6) rationalField_c7) rationalField_c8) rationalField_c9) rationalField_c10) rationalField_c11) rationalField_c12) rationalField_c13) rationalField_c14) rationalField_c15) rationalField_c16) rationalField_c17) rationalField_c18) rationalField_c19) rationalField_c20) rationalField_c21) rationalField_c22) rationalField_c23) rationalField_c24) rationalField_c25) rationalField_c26) rationalField_c27) rationalField_c28) rationalField_c29) rationalField_c30) rationalField_c31
theorem rationalField_inst : Tryz.f10.isInstance Tryz.pinned.checked.prog Rows.rationalFieldRow.origin Rows.rationalFieldRow.targs := of_decide_eq_true (by kernel_rfl)
theorem rationalField_wrap : Tryz.f10.isWrapper Tryz.pinned.checked.prog Rows.rationalFieldRow.wrapper Rows.rationalFieldRow.mainSum := by unfold Func.isWrapper; first | (rw [if_pos (by decide +kernel)]; kernel_rfl) | (rw [if_neg (by decide +kernel)]; exact ⟨rfl, rfl⟩)
theorem rationalField_row : Rows.RationalFieldSaid :=
  OpenClaim.holds_of_wide 10 Tryz.f10 rfl rfl rfl rfl rfl rfl rfl ⟨rfl, rfl, rfl, rfl, rfl⟩ rfl rfl rfl rfl rfl rationalField_name Tryz.func10 rationalField_facts rationalField_inst rationalField_wrap
    (fun os started H enc _ => rationalField_lifted os started H enc)
theorem rationalField_wf : Rows.rationalFieldRow.wfByText (OpenSpec.ofChange Rows.rationalFieldSpec) = true := by kernel_rfl
theorem rationalField_main : Tryz.pinned.checked.prog.mainIs = some (true, "72a18669e3a2f07bb33e8c9ef8118028dd2ba8cdef94a48170b8cfcc348586ec".toList) := by kernel_rfl
theorem rationalField_goes : false = Rows.rationalFieldRow.goesBy Tryz.pinned.checked.prog := by kernel_rfl
theorem rationalField_looks : true = Tryz.pinned.checked.prog.looks [] := by kernel_rfl
theorem rationalField_std : ([22,22,22].all fun u => !Tryz.prog.wantsStandIn u) = true := by kernel_rfl
theorem rationalField_at : ∀ f fn, Tryz.pinned.checked.prog.funcNamed Rows.rationalFieldRow.func = some f → Tryz.pinned.checked.prog.funcs[f]? = some fn → true = Tryz.pinned.checked.prog.looks [] ∧ ∀ (j : Nat) t, fn.params[j]? = some t → Tryz.pinned.checked.prog.wantsStandIn t = false := fun f fn hf hfn => by
  obtain rfl : f = 10 := Option.some.inj (rationalField_name.symm.trans hf) |>.symm
  obtain rfl : fn = Tryz.f10 := (Option.some.inj (Tryz.func10.symm.trans hfn)).symm
  exact ⟨rationalField_looks, fun j t ht => by
    rw [Tryz.params10] at ht
    have hm : t ∈ [22,22,22] := by simpa using Array.mem_of_getElem? ht
    exact (show Tryz.prog.wantsStandIn t = false by simpa using List.all_eq_true.1 rationalField_std t hm)⟩
theorem rationalField_holds : Rows.RationalFieldCardSaid :=
  Claim7.holds_tied_plain_at .later [] [.data, .data, .data, .data, .sentinel, .sentinel, .pinned] true (true, "72a18669e3a2f07bb33e8c9ef8118028dd2ba8cdef94a48170b8cfcc348586ec") true
    rationalField_row (fun _ h => by cases h) rationalField_wf (fun _ h => by cases h) rationalField_row_tie rfl ⟨rfl, rfl⟩ rationalField_main rfl rationalField_at rationalField_goes
#print axioms rationalField_holds
end Go.Proofs.YthnfajboebaajaaGreatDoor
