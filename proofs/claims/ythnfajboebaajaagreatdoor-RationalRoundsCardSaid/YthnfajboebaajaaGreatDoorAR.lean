import Derived.Test.YthnfajboebaajaaGreatDoorCards
import Derived.Test.YthnfajboebaajaaGreatDoorTie
import Derived.Test.YthnfajboebaajaaGreatDoorAG11
import Derived.Test.YthnfajboebaajaaGreatDoorAP2
namespace Go.Proofs.YthnfajboebaajaaGreatDoor
open Go.ChangeShapes Go.WideShapes Go.ChangeAt Go.ChangeMaps Go.RowKit
set_option maxRecDepth 100000 in
theorem rationalRounds_lifted (os : Os) (started : os.Started) (H : Type) (enc : TypeId × Value → H) :
    ReturnsInHanded {} Tryz.checked os 5 .any (fun w args => (Rows.rationalRoundsSpec.pre enc Tryz.prog Tryz.f5 [] false w args ∧ laidMetH Tryz.prog Rows.rationalRoundsRow.laid w) ∧ sizedMet enc Tryz.prog Tryz.f5 (OpenSpec.ofChange Rows.rationalRoundsSpec) false w args)
      (Rows.rationalRoundsSpec.post enc Tryz.prog Tryz.f5 false true false false) := by
  refine returnsInHanded_of_change_and (C := Tryz.checked) (X := fun w _ => laidMetH Tryz.prog Rows.rationalRoundsRow.laid w) (fun _ _ _ hh h => h.of_heap hh) Rb.own started (by kernel_rfl) Tryz.func5
    (ChangeSpec.witness_shaped (enc := enc) (C := Tryz.checked) (os := os) (X := fun w _ => laidMetH Tryz.prog Rows.rationalRoundsRow.laid w) false (World.laidAll Tryz.prog os Rb.laid) #[.string ⟨#[]⟩] 8 (World.laidAll_os _ _ _)
      (Rb.shaped os _) (by kernel_rfl) (by kernel_rfl) (by kernel_rfl) (Rb.met os _)) ?_
  intro W base args ds gs before hval0 hW _ _ hL _
  have hval : ∀ (j : Nat) t v, Tryz.f5.params[j]? = some t → args[j]? = some v → Value.okWide Tryz.prog W .any base t v := hval0
  have hW' := hW
  obtain ⟨p, q, hA0, hV, rfl, _, _⟩ := hW
  have hA : DataW.TrodAll enc Tryz.prog W 0 (fun _ => true) true Tryz.f5.params.toList args.toList ds p := hA0
  rw [Tryz.params5] at hA hval
  obtain ⟨v0, d0, rfl, rfl, h0⟩ := trodAll_one hA
  obtain ⟨rfl, rfl⟩ := trodVars_none hV
  obtain ⟨s0, rfl, rfl, rfl, z0⟩ := open_string Tryz.underlying22 (hval 0 22 v0 rfl rfl) h0
  simp only [List.append_nil] at hW'
  obtain ⟨k, hk⟩ := PA.Rounds_true s0
  refine (PA.lWRationalRounds.calls k s0 true W (Rb.of_laid hL) hk).mono fun e W' ⟨he, hb⟩ => ?_
  subst he
  exact ⟨_, rfl, _, _, _, [], [], [], hW', trodAll_mk1 (shut_bool Tryz.underlying4 _), trodAll_mk1 (shut_string Tryz.underlying22 z0), rfl, hb.frame _, fun h => by cases h⟩
theorem rationalRounds_name : Tryz.prog.funcNamed "surveyor/surveyorlaw02.RationalRounds" = some 5 := by kernel_rfl
theorem rationalRounds_c0 : Rows.rationalRoundsRow.wf (OpenSpec.ofChange Rows.rationalRoundsSpec) = true := by kernel_rfl
theorem rationalRounds_c1 : laidOutB Tryz.prog = true := by kernel_rfl
theorem rationalRounds_c2 : mapsRowed Tryz.prog = true := by kernel_rfl
theorem rationalRounds_c3 : Tryz.f5.params.all (Tryz.prog.readableRec ·) = true := by kernel_rfl
theorem rationalRounds_c4 : namedTie Tryz.prog Rows.rationalRoundsRow.named Rows.rationalRoundsSpec.vars = true := by kernel_rfl
theorem rationalRounds_c5 : (Rows.rationalRoundsRow.stops == []) = true := by kernel_rfl
theorem rationalRounds_c6 : (Tryz.prog.stops == []) = true := by kernel_rfl
theorem rationalRounds_c7 : (Rows.rationalRoundsRow.knobs == []) = true := by kernel_rfl
theorem rationalRounds_c8 : (Tryz.prog.stopKnobs == []) = true := by kernel_rfl
theorem rationalRounds_c9 : (Rows.rationalRoundsRow.inPlace == Tryz.prog.inPlace 5) = true := by kernel_rfl
theorem rationalRounds_c10 : (Rows.rationalRoundsRow.unfollowed == Tryz.prog.unfollowed 5) = true := by kernel_rfl
theorem rationalRounds_c11 : (Rows.rationalRoundsRow.recurses == Tryz.prog.recurses 5) = true := by kernel_rfl
theorem rationalRounds_c12 : (Rows.rationalRoundsRow.named == Tryz.prog.varsNamed 5) = true := by kernel_rfl
theorem rationalRounds_c13 : (Rows.rationalRoundsRow.maps == (Tryz.f5.params.toList ++ Rows.rationalRoundsSpec.plain.varTypes Tryz.prog).any (Tryz.prog.mapsRec ·)) = true := by kernel_rfl
theorem rationalRounds_c14 : (Rows.rationalRoundsRow.ifaces == (Tryz.f5.params.toList ++ Rows.rationalRoundsSpec.plain.varTypes Tryz.prog).any (Tryz.prog.ifacesRec ·)) = true := by kernel_rfl
theorem rationalRounds_c15 : (Rows.rationalRoundsRow.mapsOut == Tryz.prog.mapsAmong Tryz.f5.resultTypes.toList) = true := by kernel_rfl
theorem rationalRounds_c16 : (Rows.rationalRoundsRow.loops == (Tryz.f5.params.toList ++ Rows.rationalRoundsSpec.plain.varTypes Tryz.prog).any (Tryz.prog.loopsFrom ·)) = true := by kernel_rfl
theorem rationalRounds_c17 : (Rows.rationalRoundsRow.wideKeys == (Tryz.f5.params.toList ++ Rows.rationalRoundsSpec.plain.varTypes Tryz.prog ++ Tryz.f5.resultTypes.toList).any (Tryz.prog.wideKeysFrom ·)) = true := by kernel_rfl
theorem rationalRounds_c18 : Rows.rationalRoundsSpec.vars.all (Tryz.prog.varReadable ·) = true := by kernel_rfl
theorem rationalRounds_c19 : Tryz.f5.resultTypes.all (fun t => Tryz.prog.readableRec t && decide (t < Tryz.prog.types.size)) = true := by kernel_rfl
theorem rationalRounds_c20 : (Rows.rationalRoundsRow.ifacesOut == Tryz.f5.resultTypes.toList.any (Tryz.prog.ifacesRec ·)) = true := by kernel_rfl
theorem rationalRounds_c21 : (Rows.rationalRoundsRow.loopsOut == Tryz.f5.resultTypes.toList.any (Tryz.prog.loopsFrom ·)) = true := by kernel_rfl
theorem rationalRounds_c22 : (Rows.rationalRoundsRow.plainKeys == Tryz.prog.plainKeys) = true := by kernel_rfl
theorem rationalRounds_c23 : Rows.rationalRoundsRow.shortTexts.isNone = true := by kernel_rfl
theorem rationalRounds_c24 : Tryz.prog.stopsHeard = true := by kernel_rfl
theorem rationalRounds_c25 : Tryz.prog.mayEnter = true := by kernel_rfl
theorem rationalRounds_c26 : (Rows.rationalRoundsRow.lifted == Tryz.prog.liftsFinal) = true := by kernel_rfl
theorem rationalRounds_c27 : (Tryz.prog.make == some Rows.rationalRoundsRow.make) = true := by kernel_rfl
theorem rationalRounds_c28 : (Rows.rationalRoundsRow.kinds == (if Rows.rationalRoundsRow.domain.isEmpty then [] else Tryz.f5.params.toList.map fun t => match Tryz.prog.underlying t with | some (.int k) => some k | _ => none)) = true := by kernel_rfl
theorem rationalRounds_c29 : (Rows.rationalRoundsRow.pinned == Rows.rationalRoundsRow.pinnedBy) = true := by kernel_rfl
theorem rationalRounds_c30 : (Rows.rationalRoundsRow.veiled == (Tryz.f5.params.toList ++ Rows.rationalRoundsSpec.plain.varTypes Tryz.prog ++ Tryz.f5.resultTypes.toList).any (Tryz.prog.veiledRec ·)) = true := by kernel_rfl
theorem rationalRounds_c31 : Rows.rationalRoundsRow.veiledFits Tryz.prog Tryz.f5.params.toList (Tryz.f5.params.toList ++ Rows.rationalRoundsSpec.plain.varTypes Tryz.prog ++ Tryz.f5.resultTypes.toList) = true := by kernel_rfl
set_option maxRecDepth 100000 in
theorem rationalRounds_facts : joinedFacts Tryz.prog 5 Tryz.f5 Rows.rationalRoundsSpec Rows.rationalRoundsRow = true := by
  unfold joinedFacts
  exact Rb.and_ (Rb.and_ (Rb.and_ (Rb.and_ (Rb.and_ (Rb.and_ (Rb.and_ (Rb.and_ (Rb.and_ (Rb.and_ (Rb.and_ (Rb.and_ (Rb.and_ (Rb.and_ (Rb.and_ (Rb.and_ (Rb.and_ (Rb.and_ (Rb.and_ (Rb.and_ (Rb.and_ (Rb.and_ (Rb.and_ (Rb.and_ (Rb.and_ (Rb.and_ (Rb.and_ (Rb.and_ (Rb.and_ (Rb.and_ (Rb.and_ (rationalRounds_c0) rationalRounds_c1) rationalRounds_c2) rationalRounds_c3) rationalRounds_c4) rationalRounds_c5) rationalRounds_c6) rationalRounds_c7) rationalRounds_c8) rationalRounds_c9) rationalRounds_c10) rationalRounds_c11) rationalRounds_c12) rationalRounds_c13) rationalRounds_c14) rationalRounds_c15) rationalRounds_c16) rationalRounds_c17) rationalRounds_c18) rationalRounds_c19) rationalRounds_c20) rationalRounds_c21) rationalRounds_c22) rationalRounds_c23) rationalRounds_c24) rationalRounds_c25) rationalRounds_c26) rationalRounds_c27) rationalRounds_c28) rationalRounds_c29) rationalRounds_c30) rationalRounds_c31
theorem rationalRounds_inst : Tryz.f5.isInstance Tryz.pinned.checked.prog Rows.rationalRoundsRow.origin Rows.rationalRoundsRow.targs := of_decide_eq_true (by kernel_rfl)
theorem rationalRounds_wrap : Tryz.f5.isWrapper Tryz.pinned.checked.prog Rows.rationalRoundsRow.wrapper Rows.rationalRoundsRow.mainSum := by unfold Func.isWrapper; first | (rw [if_pos (by decide +kernel)]; kernel_rfl) | (rw [if_neg (by decide +kernel)]; exact ⟨rfl, rfl⟩)
theorem rationalRounds_row : Rows.RationalRoundsSaid :=
  OpenClaim.holds_of_wide 5 Tryz.f5 rfl rfl rfl rfl rfl rfl rfl ⟨rfl, rfl, rfl, rfl, rfl⟩ rfl rfl rfl rfl rfl rationalRounds_name Tryz.func5 rationalRounds_facts rationalRounds_inst rationalRounds_wrap
    (fun os started H enc _ => rationalRounds_lifted os started H enc)
theorem rationalRounds_wf : Rows.rationalRoundsRow.wfByText (OpenSpec.ofChange Rows.rationalRoundsSpec) = true := by kernel_rfl
theorem rationalRounds_main : Tryz.pinned.checked.prog.mainIs = some (true, "72a18669e3a2f07bb33e8c9ef8118028dd2ba8cdef94a48170b8cfcc348586ec".toList) := by kernel_rfl
theorem rationalRounds_goes : false = Rows.rationalRoundsRow.goesBy Tryz.pinned.checked.prog := by kernel_rfl
theorem rationalRounds_looks : true = Tryz.pinned.checked.prog.looks [] := by kernel_rfl
theorem rationalRounds_std : ([22].all fun u => !Tryz.prog.wantsStandIn u) = true := by kernel_rfl
theorem rationalRounds_at : ∀ f fn, Tryz.pinned.checked.prog.funcNamed Rows.rationalRoundsRow.func = some f → Tryz.pinned.checked.prog.funcs[f]? = some fn → true = Tryz.pinned.checked.prog.looks [] ∧ ∀ (j : Nat) t, fn.params[j]? = some t → Tryz.pinned.checked.prog.wantsStandIn t = false := fun f fn hf hfn => by
  obtain rfl : f = 5 := Option.some.inj (rationalRounds_name.symm.trans hf) |>.symm
  obtain rfl : fn = Tryz.f5 := (Option.some.inj (Tryz.func5.symm.trans hfn)).symm
  exact ⟨rationalRounds_looks, fun j t ht => by
    rw [Tryz.params5] at ht
    have hm : t ∈ [22] := by simpa using Array.mem_of_getElem? ht
    exact (show Tryz.prog.wantsStandIn t = false by simpa using List.all_eq_true.1 rationalRounds_std t hm)⟩
theorem rationalRounds_holds : Rows.RationalRoundsCardSaid :=
  Claim7.holds_tied_plain_at .later [] [.data, .data, .data, .data, .sentinel, .sentinel, .pinned] true (true, "72a18669e3a2f07bb33e8c9ef8118028dd2ba8cdef94a48170b8cfcc348586ec") true
    rationalRounds_row (fun _ h => by cases h) rationalRounds_wf (fun _ h => by cases h) rationalRounds_row_tie rfl ⟨rfl, rfl⟩ rationalRounds_main rfl rationalRounds_at rationalRounds_goes
#print axioms rationalRounds_holds
end Go.Proofs.YthnfajboebaajaaGreatDoor
