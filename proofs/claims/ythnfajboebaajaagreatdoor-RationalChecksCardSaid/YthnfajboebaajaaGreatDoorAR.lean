import Derived.Test.YthnfajboebaajaaGreatDoorCards
import Derived.Test.YthnfajboebaajaaGreatDoorTie
import Derived.Test.YthnfajboebaajaaGreatDoorAG11
import Derived.Test.YthnfajboebaajaaGreatDoorAP2
namespace Go.Proofs.YthnfajboebaajaaGreatDoor
open Go.ChangeShapes Go.WideShapes Go.ChangeAt Go.ChangeMaps Go.RowKit
set_option maxRecDepth 100000 in
theorem rationalChecks_lifted (os : Os) (started : os.Started) (H : Type) (enc : TypeId × Value → H) :
    ReturnsInHanded {} Tryz.checked os 3 .any (fun w args => (Rows.rationalChecksSpec.pre enc Tryz.prog Tryz.f3 [] false w args ∧ laidMetH Tryz.prog Rows.rationalChecksRow.laid w) ∧ sizedMet enc Tryz.prog Tryz.f3 (OpenSpec.ofChange Rows.rationalChecksSpec) false w args)
      (Rows.rationalChecksSpec.post enc Tryz.prog Tryz.f3 false true false false) := by
  refine returnsInHanded_of_change_and (C := Tryz.checked) (X := fun w _ => laidMetH Tryz.prog Rows.rationalChecksRow.laid w) (fun _ _ _ hh h => h.of_heap hh) Rb.own started (by kernel_rfl) Tryz.func3
    (ChangeSpec.witness_shaped (enc := enc) (C := Tryz.checked) (os := os) (X := fun w _ => laidMetH Tryz.prog Rows.rationalChecksRow.laid w) false (World.laidAll Tryz.prog os Rb.laid) #[.string ⟨#[]⟩] 8 (World.laidAll_os _ _ _)
      (Rb.shaped os _) (by kernel_rfl) (by kernel_rfl) (by kernel_rfl) (Rb.met os _)) ?_
  intro W base args ds gs before hval0 hW _ _ hL _
  have hval : ∀ (j : Nat) t v, Tryz.f3.params[j]? = some t → args[j]? = some v → Value.okWide Tryz.prog W .any base t v := hval0
  have hW' := hW
  obtain ⟨p, q, hA0, hV, rfl, _, _⟩ := hW
  have hA : DataW.TrodAll enc Tryz.prog W 0 (fun _ => true) true Tryz.f3.params.toList args.toList ds p := hA0
  rw [Tryz.params3] at hA hval
  obtain ⟨v0, d0, rfl, rfl, h0⟩ := trodAll_one hA
  obtain ⟨rfl, rfl⟩ := trodVars_none hV
  obtain ⟨s0, rfl, rfl, rfl, z0⟩ := open_string Tryz.underlying22 (hval 0 22 v0 rfl rfl) h0
  simp only [List.append_nil] at hW'
  obtain ⟨k, hk⟩ := PA.Checks_true s0
  refine (PA.lWRationalChecks.calls k s0 true W (Rb.of_laid hL) hk).mono fun e W' ⟨he, hb⟩ => ?_
  subst he
  exact ⟨_, rfl, _, _, _, [], [], [], hW', trodAll_mk1 (shut_bool Tryz.underlying4 _), trodAll_mk1 (shut_string Tryz.underlying22 z0), rfl, hb.frame _, fun h => by cases h⟩
theorem rationalChecks_name : Tryz.prog.funcNamed "surveyor/surveyorlaw02.RationalChecks" = some 3 := by kernel_rfl
theorem rationalChecks_c0 : Rows.rationalChecksRow.wf (OpenSpec.ofChange Rows.rationalChecksSpec) = true := by kernel_rfl
theorem rationalChecks_c1 : laidOutB Tryz.prog = true := by kernel_rfl
theorem rationalChecks_c2 : mapsRowed Tryz.prog = true := by kernel_rfl
theorem rationalChecks_c3 : Tryz.f3.params.all (Tryz.prog.readableRec ·) = true := by kernel_rfl
theorem rationalChecks_c4 : namedTie Tryz.prog Rows.rationalChecksRow.named Rows.rationalChecksSpec.vars = true := by kernel_rfl
theorem rationalChecks_c5 : (Rows.rationalChecksRow.stops == []) = true := by kernel_rfl
theorem rationalChecks_c6 : (Tryz.prog.stops == []) = true := by kernel_rfl
theorem rationalChecks_c7 : (Rows.rationalChecksRow.knobs == []) = true := by kernel_rfl
theorem rationalChecks_c8 : (Tryz.prog.stopKnobs == []) = true := by kernel_rfl
theorem rationalChecks_c9 : (Rows.rationalChecksRow.inPlace == Tryz.prog.inPlace 3) = true := by kernel_rfl
theorem rationalChecks_c10 : (Rows.rationalChecksRow.unfollowed == Tryz.prog.unfollowed 3) = true := by kernel_rfl
theorem rationalChecks_c11 : (Rows.rationalChecksRow.recurses == Tryz.prog.recurses 3) = true := by kernel_rfl
theorem rationalChecks_c12 : (Rows.rationalChecksRow.named == Tryz.prog.varsNamed 3) = true := by kernel_rfl
theorem rationalChecks_c13 : (Rows.rationalChecksRow.maps == (Tryz.f3.params.toList ++ Rows.rationalChecksSpec.plain.varTypes Tryz.prog).any (Tryz.prog.mapsRec ·)) = true := by kernel_rfl
theorem rationalChecks_c14 : (Rows.rationalChecksRow.ifaces == (Tryz.f3.params.toList ++ Rows.rationalChecksSpec.plain.varTypes Tryz.prog).any (Tryz.prog.ifacesRec ·)) = true := by kernel_rfl
theorem rationalChecks_c15 : (Rows.rationalChecksRow.mapsOut == Tryz.prog.mapsAmong Tryz.f3.resultTypes.toList) = true := by kernel_rfl
theorem rationalChecks_c16 : (Rows.rationalChecksRow.loops == (Tryz.f3.params.toList ++ Rows.rationalChecksSpec.plain.varTypes Tryz.prog).any (Tryz.prog.loopsFrom ·)) = true := by kernel_rfl
theorem rationalChecks_c17 : (Rows.rationalChecksRow.wideKeys == (Tryz.f3.params.toList ++ Rows.rationalChecksSpec.plain.varTypes Tryz.prog ++ Tryz.f3.resultTypes.toList).any (Tryz.prog.wideKeysFrom ·)) = true := by kernel_rfl
theorem rationalChecks_c18 : Rows.rationalChecksSpec.vars.all (Tryz.prog.varReadable ·) = true := by kernel_rfl
theorem rationalChecks_c19 : Tryz.f3.resultTypes.all (fun t => Tryz.prog.readableRec t && decide (t < Tryz.prog.types.size)) = true := by kernel_rfl
theorem rationalChecks_c20 : (Rows.rationalChecksRow.ifacesOut == Tryz.f3.resultTypes.toList.any (Tryz.prog.ifacesRec ·)) = true := by kernel_rfl
theorem rationalChecks_c21 : (Rows.rationalChecksRow.loopsOut == Tryz.f3.resultTypes.toList.any (Tryz.prog.loopsFrom ·)) = true := by kernel_rfl
theorem rationalChecks_c22 : (Rows.rationalChecksRow.plainKeys == Tryz.prog.plainKeys) = true := by kernel_rfl
theorem rationalChecks_c23 : Rows.rationalChecksRow.shortTexts.isNone = true := by kernel_rfl
theorem rationalChecks_c24 : Tryz.prog.stopsHeard = true := by kernel_rfl
theorem rationalChecks_c25 : Tryz.prog.mayEnter = true := by kernel_rfl
theorem rationalChecks_c26 : (Rows.rationalChecksRow.lifted == Tryz.prog.liftsFinal) = true := by kernel_rfl
theorem rationalChecks_c27 : (Tryz.prog.make == some Rows.rationalChecksRow.make) = true := by kernel_rfl
theorem rationalChecks_c28 : (Rows.rationalChecksRow.kinds == (if Rows.rationalChecksRow.domain.isEmpty then [] else Tryz.f3.params.toList.map fun t => match Tryz.prog.underlying t with | some (.int k) => some k | _ => none)) = true := by kernel_rfl
theorem rationalChecks_c29 : (Rows.rationalChecksRow.pinned == Rows.rationalChecksRow.pinnedBy) = true := by kernel_rfl
theorem rationalChecks_c30 : (Rows.rationalChecksRow.veiled == (Tryz.f3.params.toList ++ Rows.rationalChecksSpec.plain.varTypes Tryz.prog ++ Tryz.f3.resultTypes.toList).any (Tryz.prog.veiledRec ·)) = true := by kernel_rfl
theorem rationalChecks_c31 : Rows.rationalChecksRow.veiledFits Tryz.prog Tryz.f3.params.toList (Tryz.f3.params.toList ++ Rows.rationalChecksSpec.plain.varTypes Tryz.prog ++ Tryz.f3.resultTypes.toList) = true := by kernel_rfl
set_option maxRecDepth 100000 in
theorem rationalChecks_facts : joinedFacts Tryz.prog 3 Tryz.f3 Rows.rationalChecksSpec Rows.rationalChecksRow = true := by
  unfold joinedFacts
  exact Rb.and_ (Rb.and_ (Rb.and_ (Rb.and_ (Rb.and_ (Rb.and_ (Rb.and_ (Rb.and_ (Rb.and_ (Rb.and_ (Rb.and_ (Rb.and_ (Rb.and_ (Rb.and_ (Rb.and_ (Rb.and_ (Rb.and_ (Rb.and_ (Rb.and_ (Rb.and_ (Rb.and_ (Rb.and_ (Rb.and_ (Rb.and_ (Rb.and_ (Rb.and_ (Rb.and_ (Rb.and_ (Rb.and_ (Rb.and_ (Rb.and_ (rationalChecks_c0) rationalChecks_c1) rationalChecks_c2) rationalChecks_c3) rationalChecks_c4) rationalChecks_c5) rationalChecks_c6) rationalChecks_c7) rationalChecks_c8) rationalChecks_c9) rationalChecks_c10) rationalChecks_c11) rationalChecks_c12) rationalChecks_c13) rationalChecks_c14) rationalChecks_c15) rationalChecks_c16) rationalChecks_c17) rationalChecks_c18) rationalChecks_c19) rationalChecks_c20) rationalChecks_c21) rationalChecks_c22) rationalChecks_c23) rationalChecks_c24) rationalChecks_c25) rationalChecks_c26) rationalChecks_c27) rationalChecks_c28) rationalChecks_c29) rationalChecks_c30) rationalChecks_c31
theorem rationalChecks_inst : Tryz.f3.isInstance Tryz.pinned.checked.prog Rows.rationalChecksRow.origin Rows.rationalChecksRow.targs := of_decide_eq_true (by kernel_rfl)
theorem rationalChecks_wrap : Tryz.f3.isWrapper Tryz.pinned.checked.prog Rows.rationalChecksRow.wrapper Rows.rationalChecksRow.mainSum := by unfold Func.isWrapper; first | (rw [if_pos (by decide +kernel)]; kernel_rfl) | (rw [if_neg (by decide +kernel)]; exact ⟨rfl, rfl⟩)
theorem rationalChecks_row : Rows.RationalChecksSaid :=
  OpenClaim.holds_of_wide 3 Tryz.f3 rfl rfl rfl rfl rfl rfl rfl ⟨rfl, rfl, rfl, rfl, rfl⟩ rfl rfl rfl rfl rfl rationalChecks_name Tryz.func3 rationalChecks_facts rationalChecks_inst rationalChecks_wrap
    (fun os started H enc _ => rationalChecks_lifted os started H enc)
theorem rationalChecks_wf : Rows.rationalChecksRow.wfByText (OpenSpec.ofChange Rows.rationalChecksSpec) = true := by kernel_rfl
theorem rationalChecks_main : Tryz.pinned.checked.prog.mainIs = some (true, "72a18669e3a2f07bb33e8c9ef8118028dd2ba8cdef94a48170b8cfcc348586ec".toList) := by kernel_rfl
theorem rationalChecks_goes : false = Rows.rationalChecksRow.goesBy Tryz.pinned.checked.prog := by kernel_rfl
theorem rationalChecks_looks : true = Tryz.pinned.checked.prog.looks [] := by kernel_rfl
theorem rationalChecks_std : ([22].all fun u => !Tryz.prog.wantsStandIn u) = true := by kernel_rfl
theorem rationalChecks_at : ∀ f fn, Tryz.pinned.checked.prog.funcNamed Rows.rationalChecksRow.func = some f → Tryz.pinned.checked.prog.funcs[f]? = some fn → true = Tryz.pinned.checked.prog.looks [] ∧ ∀ (j : Nat) t, fn.params[j]? = some t → Tryz.pinned.checked.prog.wantsStandIn t = false := fun f fn hf hfn => by
  obtain rfl : f = 3 := Option.some.inj (rationalChecks_name.symm.trans hf) |>.symm
  obtain rfl : fn = Tryz.f3 := (Option.some.inj (Tryz.func3.symm.trans hfn)).symm
  exact ⟨rationalChecks_looks, fun j t ht => by
    rw [Tryz.params3] at ht
    have hm : t ∈ [22] := by simpa using Array.mem_of_getElem? ht
    exact (show Tryz.prog.wantsStandIn t = false by simpa using List.all_eq_true.1 rationalChecks_std t hm)⟩
theorem rationalChecks_holds : Rows.RationalChecksCardSaid :=
  Claim7.holds_tied_plain_at .later [] [.data, .data, .data, .data, .sentinel, .sentinel, .pinned] true (true, "72a18669e3a2f07bb33e8c9ef8118028dd2ba8cdef94a48170b8cfcc348586ec") true
    rationalChecks_row (fun _ h => by cases h) rationalChecks_wf (fun _ h => by cases h) rationalChecks_row_tie rfl ⟨rfl, rfl⟩ rationalChecks_main rfl rationalChecks_at rationalChecks_goes
#print axioms rationalChecks_holds
end Go.Proofs.YthnfajboebaajaaGreatDoor
