import Derived.Test.YthnfajboebaajaaGreatDoorCards
import Derived.Test.YthnfajboebaajaaGreatDoorTie
import Derived.Test.YthnfajboebaajaaGreatDoorAT1
import Derived.Test.YthnfajboebaajaaGreatDoorAG8
namespace Go.Proofs.YthnfajboebaajaaGreatDoor
open Go.ChangeShapes Go.WideShapes Go.ChangeAt Go.ChangeMaps Go.RowKit
set_option maxRecDepth 100000 in
theorem topIntegersOrdered_lifted (os : Os) (started : os.Started) (H : Type) (enc : TypeId × Value → H) :
    ReturnsInHanded {} Tryz.checked os 13 .any (fun w args => (Rows.topIntegersOrderedSpec.pre enc Tryz.prog Tryz.f13 [] false w args ∧ laidMetH Tryz.prog Rows.topIntegersOrderedRow.laid w) ∧ sizedMet enc Tryz.prog Tryz.f13 (OpenSpec.ofChange Rows.topIntegersOrderedSpec) false w args)
      (Rows.topIntegersOrderedSpec.post enc Tryz.prog Tryz.f13 false true false false) := by
  refine returnsInHanded_of_change_and (C := Tryz.checked) (X := fun w _ => laidMetH Tryz.prog Rows.topIntegersOrderedRow.laid w) (fun _ _ _ hh h => h.of_heap hh) Rb.own started (by kernel_rfl) Tryz.func13
    (ChangeSpec.witness_shaped (enc := enc) (C := Tryz.checked) (os := os) (X := fun w _ => laidMetH Tryz.prog Rows.topIntegersOrderedRow.laid w) false (World.laidAll Tryz.prog os Rb.laid) #[.string ⟨#[]⟩, .string ⟨#[]⟩, .string ⟨#[]⟩] 8 (World.laidAll_os _ _ _)
      (Rb.shaped os _) (by kernel_rfl) (by kernel_rfl) (by kernel_rfl) (Rb.met os _)) ?_
  intro W base args ds gs before hval0 hW _ _ hL _
  have hval : ∀ (j : Nat) t v, Tryz.f13.params[j]? = some t → args[j]? = some v → Value.okWide Tryz.prog W .any base t v := hval0
  have hW' := hW
  obtain ⟨p, q, hA0, hV, rfl, _, _⟩ := hW
  have hA : DataW.TrodAll enc Tryz.prog W 0 (fun _ => true) true Tryz.f13.params.toList args.toList ds p := hA0
  rw [Tryz.params13] at hA hval
  obtain ⟨v0, v1, v2, d0, d1, d2, p0, p1, p2, rfl, rfl, rfl, h0, h1, h2⟩ := trodAll_three hA
  obtain ⟨rfl, rfl⟩ := trodVars_none hV
  obtain ⟨s0, rfl, rfl, rfl, z0⟩ := open_string Tryz.underlying25 (hval 0 25 v0 rfl rfl) h0
  obtain ⟨s1, rfl, rfl, rfl, z1⟩ := open_string Tryz.underlying25 (hval 1 25 v1 rfl rfl) h1
  obtain ⟨s2, rfl, rfl, rfl, z2⟩ := open_string Tryz.underlying25 (hval 2 25 v2 rfl rfl) h2
  simp only [List.append_nil] at hW'
  refine (PA.Ordered_true s0 s1 s2 W (Rb.of_laid hL)).mono fun e W' ⟨he, hb⟩ => ?_
  subst he
  exact ⟨_, rfl, _, _, _, [], [], [], hW', trodAll_mk1 (shut_bool Tryz.underlying4 _), trodAll_mk3 (shut_string Tryz.underlying25 z0) (shut_string Tryz.underlying25 z1) (shut_string Tryz.underlying25 z2), rfl, hb.frame _, fun h => by cases h⟩
theorem topIntegersOrdered_name : Tryz.prog.funcNamed "surveyor/surveyortop.TopIntegersOrdered" = some 13 := by kernel_rfl
theorem topIntegersOrdered_c0 : Rows.topIntegersOrderedRow.wf (OpenSpec.ofChange Rows.topIntegersOrderedSpec) = true := by kernel_rfl
theorem topIntegersOrdered_c1 : laidOutB Tryz.prog = true := by kernel_rfl
theorem topIntegersOrdered_c2 : mapsRowed Tryz.prog = true := by kernel_rfl
theorem topIntegersOrdered_c3 : Tryz.f13.params.all (Tryz.prog.readableRec ·) = true := by kernel_rfl
theorem topIntegersOrdered_c4 : namedTie Tryz.prog Rows.topIntegersOrderedRow.named Rows.topIntegersOrderedSpec.vars = true := by kernel_rfl
theorem topIntegersOrdered_c5 : (Rows.topIntegersOrderedRow.stops == []) = true := by kernel_rfl
theorem topIntegersOrdered_c6 : (Tryz.prog.stops == []) = true := by kernel_rfl
theorem topIntegersOrdered_c7 : (Rows.topIntegersOrderedRow.knobs == []) = true := by kernel_rfl
theorem topIntegersOrdered_c8 : (Tryz.prog.stopKnobs == []) = true := by kernel_rfl
theorem topIntegersOrdered_c9 : (Rows.topIntegersOrderedRow.inPlace == Tryz.prog.inPlace 13) = true := by kernel_rfl
theorem topIntegersOrdered_c10 : (Rows.topIntegersOrderedRow.unfollowed == Tryz.prog.unfollowed 13) = true := by kernel_rfl
theorem topIntegersOrdered_c11 : (Rows.topIntegersOrderedRow.recurses == Tryz.prog.recurses 13) = true := by kernel_rfl
theorem topIntegersOrdered_c12 : (Rows.topIntegersOrderedRow.named == Tryz.prog.varsNamed 13) = true := by kernel_rfl
theorem topIntegersOrdered_c13 : (Rows.topIntegersOrderedRow.maps == (Tryz.f13.params.toList ++ Rows.topIntegersOrderedSpec.plain.varTypes Tryz.prog).any (Tryz.prog.mapsRec ·)) = true := by kernel_rfl
theorem topIntegersOrdered_c14 : (Rows.topIntegersOrderedRow.ifaces == (Tryz.f13.params.toList ++ Rows.topIntegersOrderedSpec.plain.varTypes Tryz.prog).any (Tryz.prog.ifacesRec ·)) = true := by kernel_rfl
theorem topIntegersOrdered_c15 : (Rows.topIntegersOrderedRow.mapsOut == Tryz.prog.mapsAmong Tryz.f13.resultTypes.toList) = true := by kernel_rfl
theorem topIntegersOrdered_c16 : (Rows.topIntegersOrderedRow.loops == (Tryz.f13.params.toList ++ Rows.topIntegersOrderedSpec.plain.varTypes Tryz.prog).any (Tryz.prog.loopsFrom ·)) = true := by kernel_rfl
theorem topIntegersOrdered_c17 : (Rows.topIntegersOrderedRow.wideKeys == (Tryz.f13.params.toList ++ Rows.topIntegersOrderedSpec.plain.varTypes Tryz.prog ++ Tryz.f13.resultTypes.toList).any (Tryz.prog.wideKeysFrom ·)) = true := by kernel_rfl
theorem topIntegersOrdered_c18 : Rows.topIntegersOrderedSpec.vars.all (Tryz.prog.varReadable ·) = true := by kernel_rfl
theorem topIntegersOrdered_c19 : Tryz.f13.resultTypes.all (fun t => Tryz.prog.readableRec t && decide (t < Tryz.prog.types.size)) = true := by kernel_rfl
theorem topIntegersOrdered_c20 : (Rows.topIntegersOrderedRow.ifacesOut == Tryz.f13.resultTypes.toList.any (Tryz.prog.ifacesRec ·)) = true := by kernel_rfl
theorem topIntegersOrdered_c21 : (Rows.topIntegersOrderedRow.loopsOut == Tryz.f13.resultTypes.toList.any (Tryz.prog.loopsFrom ·)) = true := by kernel_rfl
theorem topIntegersOrdered_c22 : (Rows.topIntegersOrderedRow.plainKeys == Tryz.prog.plainKeys) = true := by kernel_rfl
theorem topIntegersOrdered_c23 : Rows.topIntegersOrderedRow.shortTexts.isNone = true := by kernel_rfl
theorem topIntegersOrdered_c24 : Tryz.prog.stopsHeard = true := by kernel_rfl
theorem topIntegersOrdered_c25 : Tryz.prog.mayEnter = true := by kernel_rfl
theorem topIntegersOrdered_c26 : (Rows.topIntegersOrderedRow.lifted == Tryz.prog.liftsFinal) = true := by kernel_rfl
theorem topIntegersOrdered_c27 : (Tryz.prog.make == some Rows.topIntegersOrderedRow.make) = true := by kernel_rfl
theorem topIntegersOrdered_c28 : (Rows.topIntegersOrderedRow.kinds == (if Rows.topIntegersOrderedRow.domain.isEmpty then [] else Tryz.f13.params.toList.map fun t => match Tryz.prog.underlying t with | some (.int k) => some k | _ => none)) = true := by kernel_rfl
theorem topIntegersOrdered_c29 : (Rows.topIntegersOrderedRow.pinned == Rows.topIntegersOrderedRow.pinnedBy) = true := by kernel_rfl
theorem topIntegersOrdered_c30 : (Rows.topIntegersOrderedRow.veiled == (Tryz.f13.params.toList ++ Rows.topIntegersOrderedSpec.plain.varTypes Tryz.prog ++ Tryz.f13.resultTypes.toList).any (Tryz.prog.veiledRec ·)) = true := by kernel_rfl
theorem topIntegersOrdered_c31 : Rows.topIntegersOrderedRow.veiledFits Tryz.prog Tryz.f13.params.toList (Tryz.f13.params.toList ++ Rows.topIntegersOrderedSpec.plain.varTypes Tryz.prog ++ Tryz.f13.resultTypes.toList) = true := by kernel_rfl
set_option maxRecDepth 100000 in
theorem topIntegersOrdered_facts : joinedFacts Tryz.prog 13 Tryz.f13 Rows.topIntegersOrderedSpec Rows.topIntegersOrderedRow = true := by
  unfold joinedFacts
  exact Rb.and_ (Rb.and_ (Rb.and_ (Rb.and_ (Rb.and_ (Rb.and_ (Rb.and_ (Rb.and_ (Rb.and_ (Rb.and_ (Rb.and_ (Rb.and_ (Rb.and_ (Rb.and_ (Rb.and_ (Rb.and_ (Rb.and_ (Rb.and_ (Rb.and_ (Rb.and_ (Rb.and_ (Rb.and_ (Rb.and_ (Rb.and_ (Rb.and_ (Rb.and_ (Rb.and_ (Rb.and_ (Rb.and_ (Rb.and_ (Rb.and_ (topIntegersOrdered_c0) topIntegersOrdered_c1) topIntegersOrdered_c2) topIntegersOrdered_c3) topIntegersOrdered_c4) topIntegersOrdered_c5) topIntegersOrdered_c6) topIntegersOrdered_c7) topIntegersOrdered_c8) topIntegersOrdered_c9) topIntegersOrdered_c10) topIntegersOrdered_c11) topIntegersOrdered_c12) topIntegersOrdered_c13) topIntegersOrdered_c14) topIntegersOrdered_c15) topIntegersOrdered_c16) topIntegersOrdered_c17) topIntegersOrdered_c18) topIntegersOrdered_c19) topIntegersOrdered_c20) topIntegersOrdered_c21) topIntegersOrdered_c22) topIntegersOrdered_c23) topIntegersOrdered_c24) topIntegersOrdered_c25) topIntegersOrdered_c26) topIntegersOrdered_c27) topIntegersOrdered_c28) topIntegersOrdered_c29) topIntegersOrdered_c30) topIntegersOrdered_c31
theorem topIntegersOrdered_inst : Tryz.f13.isInstance Tryz.pinned.checked.prog Rows.topIntegersOrderedRow.origin Rows.topIntegersOrderedRow.targs := of_decide_eq_true (by kernel_rfl)
theorem topIntegersOrdered_wrap : Tryz.f13.isWrapper Tryz.pinned.checked.prog Rows.topIntegersOrderedRow.wrapper Rows.topIntegersOrderedRow.mainSum := by unfold Func.isWrapper; first | (rw [if_pos (by decide +kernel)]; kernel_rfl) | (rw [if_neg (by decide +kernel)]; exact ⟨rfl, rfl⟩)
theorem topIntegersOrdered_row : Rows.TopIntegersOrderedSaid :=
  OpenClaim.holds_of_wide 13 Tryz.f13 rfl rfl rfl rfl rfl rfl rfl ⟨rfl, rfl, rfl, rfl, rfl⟩ rfl rfl rfl rfl rfl topIntegersOrdered_name Tryz.func13 topIntegersOrdered_facts topIntegersOrdered_inst topIntegersOrdered_wrap
    (fun os started H enc _ => topIntegersOrdered_lifted os started H enc)
theorem topIntegersOrdered_wf : Rows.topIntegersOrderedRow.wfByText (OpenSpec.ofChange Rows.topIntegersOrderedSpec) = true := by kernel_rfl
theorem topIntegersOrdered_main : Tryz.pinned.checked.prog.mainIs = some (true, "72a18669e3a2f07bb33e8c9ef8118028dd2ba8cdef94a48170b8cfcc348586ec".toList) := by kernel_rfl
theorem topIntegersOrdered_goes : false = Rows.topIntegersOrderedRow.goesBy Tryz.pinned.checked.prog := by kernel_rfl
theorem topIntegersOrdered_looks : true = Tryz.pinned.checked.prog.looks [] := by kernel_rfl
theorem topIntegersOrdered_std : ([25,25,25].all fun u => !Tryz.prog.wantsStandIn u) = true := by kernel_rfl
theorem topIntegersOrdered_at : ∀ f fn, Tryz.pinned.checked.prog.funcNamed Rows.topIntegersOrderedRow.func = some f → Tryz.pinned.checked.prog.funcs[f]? = some fn → true = Tryz.pinned.checked.prog.looks [] ∧ ∀ (j : Nat) t, fn.params[j]? = some t → Tryz.pinned.checked.prog.wantsStandIn t = false := fun f fn hf hfn => by
  obtain rfl : f = 13 := Option.some.inj (topIntegersOrdered_name.symm.trans hf) |>.symm
  obtain rfl : fn = Tryz.f13 := (Option.some.inj (Tryz.func13.symm.trans hfn)).symm
  exact ⟨topIntegersOrdered_looks, fun j t ht => by
    rw [Tryz.params13] at ht
    have hm : t ∈ [25,25,25] := by simpa using Array.mem_of_getElem? ht
    exact (show Tryz.prog.wantsStandIn t = false by simpa using List.all_eq_true.1 topIntegersOrdered_std t hm)⟩
theorem topIntegersOrdered_holds : Rows.TopIntegersOrderedCardSaid :=
  Claim7.holds_tied_plain_at .later [] [.data, .data, .data, .data, .sentinel, .sentinel, .pinned] true (true, "72a18669e3a2f07bb33e8c9ef8118028dd2ba8cdef94a48170b8cfcc348586ec") true
    topIntegersOrdered_row (fun _ h => by cases h) topIntegersOrdered_wf (fun _ h => by cases h) topIntegersOrdered_row_tie rfl ⟨rfl, rfl⟩ topIntegersOrdered_main rfl topIntegersOrdered_at topIntegersOrdered_goes
#print axioms topIntegersOrdered_holds
end Go.Proofs.YthnfajboebaajaaGreatDoor
