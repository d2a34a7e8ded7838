import Derived.Test.YthnfajboebaajaaGreatDoorCards
import Derived.Test.YthnfajboebaajaaGreatDoorTie
import Derived.Test.YthnfajboebaajaaGreatDoorAT1
import Derived.Test.YthnfajboebaajaaGreatDoorAG8
namespace Go.Proofs.YthnfajboebaajaaGreatDoor
open Go.ChangeShapes Go.WideShapes Go.ChangeAt Go.ChangeMaps Go.RowKit
set_option maxRecDepth 100000 in
theorem topIntegersRing_lifted (os : Os) (started : os.Started) (H : Type) (enc : TypeId × Value → H) :
    ReturnsInHanded {} Tryz.checked os 11 .any (fun w args => (Rows.topIntegersRingSpec.pre enc Tryz.prog Tryz.f11 [] false w args ∧ laidMetH Tryz.prog Rows.topIntegersRingRow.laid w) ∧ sizedMet enc Tryz.prog Tryz.f11 (OpenSpec.ofChange Rows.topIntegersRingSpec) false w args)
      (Rows.topIntegersRingSpec.post enc Tryz.prog Tryz.f11 false true false false) := by
  refine returnsInHanded_of_change_and (C := Tryz.checked) (X := fun w _ => laidMetH Tryz.prog Rows.topIntegersRingRow.laid w) (fun _ _ _ hh h => h.of_heap hh) Rb.own started (by kernel_rfl) Tryz.func11
    (ChangeSpec.witness_shaped (enc := enc) (C := Tryz.checked) (os := os) (X := fun w _ => laidMetH Tryz.prog Rows.topIntegersRingRow.laid w) false (World.laidAll Tryz.prog os Rb.laid) #[.string ⟨#[]⟩, .string ⟨#[]⟩, .string ⟨#[]⟩] 8 (World.laidAll_os _ _ _)
      (Rb.shaped os _) (by kernel_rfl) (by kernel_rfl) (by kernel_rfl) (Rb.met os _)) ?_
  intro W base args ds gs before hval0 hW _ _ hL _
  have hval : ∀ (j : Nat) t v, Tryz.f11.params[j]? = some t → args[j]? = some v → Value.okWide Tryz.prog W .any base t v := hval0
  have hW' := hW
  obtain ⟨p, q, hA0, hV, rfl, _, _⟩ := hW
  have hA : DataW.TrodAll enc Tryz.prog W 0 (fun _ => true) true Tryz.f11.params.toList args.toList ds p := hA0
  rw [Tryz.params11] at hA hval
  obtain ⟨v0, v1, v2, d0, d1, d2, p0, p1, p2, rfl, rfl, rfl, h0, h1, h2⟩ := trodAll_three hA
  obtain ⟨rfl, rfl⟩ := trodVars_none hV
  obtain ⟨s0, rfl, rfl, rfl, z0⟩ := open_string Tryz.underlying25 (hval 0 25 v0 rfl rfl) h0
  obtain ⟨s1, rfl, rfl, rfl, z1⟩ := open_string Tryz.underlying25 (hval 1 25 v1 rfl rfl) h1
  obtain ⟨s2, rfl, rfl, rfl, z2⟩ := open_string Tryz.underlying25 (hval 2 25 v2 rfl rfl) h2
  simp only [List.append_nil] at hW'
  refine (PA.Ring_true s0 s1 s2 W (Rb.of_laid hL)).mono fun e W' ⟨he, hb⟩ => ?_
  subst he
  exact ⟨_, rfl, _, _, _, [], [], [], hW', trodAll_mk1 (shut_bool Tryz.underlying4 _), trodAll_mk3 (shut_string Tryz.underlying25 z0) (shut_string Tryz.underlying25 z1) (shut_string Tryz.underlying25 z2), rfl, hb.frame _, fun h => by cases h⟩
theorem topIntegersRing_name : Tryz.prog.funcNamed "surveyor/surveyortop.TopIntegersRing" = some 11 := by kernel_rfl
theorem topIntegersRing_c0 : Rows.topIntegersRingRow.wf (OpenSpec.ofChange Rows.topIntegersRingSpec) = true := by kernel_rfl
theorem topIntegersRing_c1 : laidOutB Tryz.prog = true := by kernel_rfl
theorem topIntegersRing_c2 : mapsRowed Tryz.prog = true := by kernel_rfl
theorem topIntegersRing_c3 : Tryz.f11.params.all (Tryz.prog.readableRec ·) = true := by kernel_rfl
theorem topIntegersRing_c4 : namedTie Tryz.prog Rows.topIntegersRingRow.named Rows.topIntegersRingSpec.vars = true := by kernel_rfl
theorem topIntegersRing_c5 : (Rows.topIntegersRingRow.stops == []) = true := by kernel_rfl
theorem topIntegersRing_c6 : (Tryz.prog.stops == []) = true := by kernel_rfl
theorem topIntegersRing_c7 : (Rows.topIntegersRingRow.knobs == []) = true := by kernel_rfl
theorem topIntegersRing_c8 : (Tryz.prog.stopKnobs == []) = true := by kernel_rfl
theorem topIntegersRing_c9 : (Rows.topIntegersRingRow.inPlace == Tryz.prog.inPlace 11) = true := by kernel_rfl
theorem topIntegersRing_c10 : (Rows.topIntegersRingRow.unfollowed == Tryz.prog.unfollowed 11) = true := by kernel_rfl
theorem topIntegersRing_c11 : (Rows.topIntegersRingRow.recurses == Tryz.prog.recurses 11) = true := by kernel_rfl
theorem topIntegersRing_c12 : (Rows.topIntegersRingRow.named == Tryz.prog.varsNamed 11) = true := by kernel_rfl
theorem topIntegersRing_c13 : (Rows.topIntegersRingRow.maps == (Tryz.f11.params.toList ++ Rows.topIntegersRingSpec.plain.varTypes Tryz.prog).any (Tryz.prog.mapsRec ·)) = true := by kernel_rfl
theorem topIntegersRing_c14 : (Rows.topIntegersRingRow.ifaces == (Tryz.f11.params.toList ++ Rows.topIntegersRingSpec.plain.varTypes Tryz.prog).any (Tryz.prog.ifacesRec ·)) = true := by kernel_rfl
theorem topIntegersRing_c15 : (Rows.topIntegersRingRow.mapsOut == Tryz.prog.mapsAmong Tryz.f11.resultTypes.toList) = true := by kernel_rfl
theorem topIntegersRing_c16 : (Rows.topIntegersRingRow.loops == (Tryz.f11.params.toList ++ Rows.topIntegersRingSpec.plain.varTypes Tryz.prog).any (Tryz.prog.loopsFrom ·)) = true := by kernel_rfl
theorem topIntegersRing_c17 : (Rows.topIntegersRingRow.wideKeys == (Tryz.f11.params.toList ++ Rows.topIntegersRingSpec.plain.varTypes Tryz.prog ++ Tryz.f11.resultTypes.toList).any (Tryz.prog.wideKeysFrom ·)) = true := by kernel_rfl
theorem topIntegersRing_c18 : Rows.topIntegersRingSpec.vars.all (Tryz.prog.varReadable ·) = true := by kernel_rfl
theorem topIntegersRing_c19 : Tryz.f11.resultTypes.all (fun t => Tryz.prog.readableRec t && decide (t < Tryz.prog.types.size)) = true := by kernel_rfl
theorem topIntegersRing_c20 : (Rows.topIntegersRingRow.ifacesOut == Tryz.f11.resultTypes.toList.any (Tryz.prog.ifacesRec ·)) = true := by kernel_rfl
theorem topIntegersRing_c21 : (Rows.topIntegersRingRow.loopsOut == Tryz.f11.resultTypes.toList.any (Tryz.prog.loopsFrom ·)) = true := by kernel_rfl
theorem topIntegersRing_c22 : (Rows.topIntegersRingRow.plainKeys == Tryz.prog.plainKeys) = true := by kernel_rfl
theorem topIntegersRing_c23 : Rows.topIntegersRingRow.shortTexts.isNone = true := by kernel_rfl
theorem topIntegersRing_c24 : Tryz.prog.stopsHeard = true := by kernel_rfl
theorem topIntegersRing_c25 : Tryz.prog.mayEnter = true := by kernel_rfl
theorem topIntegersRing_c26 : (Rows.topIntegersRingRow.lifted == Tryz.prog.liftsFinal) = true := by kernel_rfl
theorem topIntegersRing_c27 : (Tryz.prog.make == some Rows.topIntegersRingRow.make) = true := by kernel_rfl
theorem topIntegersRing_c28 : (Rows.topIntegersRingRow.kinds == (if Rows.topIntegersRingRow.domain.isEmpty then [] else Tryz.f11.params.toList.map fun t => match Tryz.prog.underlying t with | some (.int k) => some k | _ => none)) = true := by kernel_rfl
theorem topIntegersRing_c29 : (Rows.topIntegersRingRow.pinned == Rows.topIntegersRingRow.pinnedBy) = true := by kernel_rfl
theorem topIntegersRing_c30 : (Rows.topIntegersRingRow.veiled == (Tryz.f11.params.toList ++ Rows.topIntegersRingSpec.plain.varTypes Tryz.prog ++ Tryz.f11.resultTypes.toList).any (Tryz.prog.veiledRec ·)) = true := by kernel_rfl
theorem topIntegersRing_c31 : Rows.topIntegersRingRow.veiledFits Tryz.prog Tryz.f11.params.toList (Tryz.f11.params.toList ++ Rows.topIntegersRingSpec.plain.varTypes Tryz.prog ++ Tryz.f11.resultTypes.toList) = true := by kernel_rfl
set_option maxRecDepth 100000 in
theorem topIntegersRing_facts : joinedFacts Tryz.prog 11 Tryz.f11 Rows.topIntegersRingSpec Rows.topIntegersRingRow = true := by
  unfold joinedFacts
  exact Rb.and_ (Rb.and_ (Rb.and_ (Rb.and_ (Rb.and_ (Rb.and_ (Rb.and_ (Rb.and_ (Rb.and_ (Rb.and_ (Rb.and_ (Rb.and_ (Rb.and_ (Rb.and_ (Rb.and_ (Rb.and_ (Rb.and_ (Rb.and_ (Rb.and_ (Rb.and_ (Rb.and_ (Rb.and_ (Rb.and_ (Rb.and_ (Rb.and_ (Rb.and_ (Rb.and_ (Rb.and_ (Rb.and_ (Rb.and_ (Rb.and_ (topIntegersRing_c0) topIntegersRing_c1) topIntegersRing_c2) topIntegersRing_c3) topIntegersRing_c4) topIntegersRing_c5) topIntegersRing_c6) topIntegersRing_c7) topIntegersRing_c8) topIntegersRing_c9) topIntegersRing_c10) topIntegersRing_c11) topIntegersRing_c12) topIntegersRing_c13) topIntegersRing_c14) topIntegersRing_c15) topIntegersRing_c16) topIntegersRing_c17) topIntegersRing_c18) topIntegersRing_c19) topIntegersRing_c20) topIntegersRing_c21) topIntegersRing_c22) topIntegersRing_c23) topIntegersRing_c24) topIntegersRing_c25) topIntegersRing_c26) topIntegersRing_c27) topIntegersRing_c28) topIntegersRing_c29) topIntegersRing_c30) topIntegersRing_c31
theorem topIntegersRing_inst : Tryz.f11.isInstance Tryz.pinned.checked.prog Rows.topIntegersRingRow.origin Rows.topIntegersRingRow.targs := of_decide_eq_true (by kernel_rfl)
theorem topIntegersRing_wrap : Tryz.f11.isWrapper Tryz.pinned.checked.prog Rows.topIntegersRingRow.wrapper Rows.topIntegersRingRow.mainSum := by unfold Func.isWrapper; first | (rw [if_pos (by decide +kernel)]; kernel_rfl) | (rw [if_neg (by decide +kernel)]; exact ⟨rfl, rfl⟩)
theorem topIntegersRing_row : Rows.TopIntegersRingSaid :=
  OpenClaim.holds_of_wide 11 Tryz.f11 rfl rfl rfl rfl rfl rfl rfl ⟨rfl, rfl, rfl, rfl, rfl⟩ rfl rfl rfl rfl rfl topIntegersRing_name Tryz.func11 topIntegersRing_facts topIntegersRing_inst topIntegersRing_wrap
    (fun os started H enc _ => topIntegersRing_lifted os started H enc)
theorem topIntegersRing_wf : Rows.topIntegersRingRow.wfByText (OpenSpec.ofChange Rows.topIntegersRingSpec) = true := by kernel_rfl
theorem topIntegersRing_main : Tryz.pinned.checked.prog.mainIs = some (true, "72a18669e3a2f07bb33e8c9ef8118028dd2ba8cdef94a48170b8cfcc348586ec".toList) := by kernel_rfl
theorem topIntegersRing_goes : false = Rows.topIntegersRingRow.goesBy Tryz.pinned.checked.prog := by kernel_rfl
theorem topIntegersRing_looks : true = Tryz.pinned.checked.prog.looks [] := by kernel_rfl
theorem topIntegersRing_std : ([25,25,25].all fun u => !Tryz.prog.wantsStandIn u) = true := by kernel_rfl
theorem topIntegersRing_at : ∀ f fn, Tryz.pinned.checked.prog.funcNamed Rows.topIntegersRingRow.func = some f → Tryz.pinned.checked.prog.funcs[f]? = some fn → true = Tryz.pinned.checked.prog.looks [] ∧ ∀ (j : Nat) t, fn.params[j]? = some t → Tryz.pinned.checked.prog.wantsStandIn t = false := fun f fn hf hfn => by
  obtain rfl : f = 11 := Option.some.inj (topIntegersRing_name.symm.trans hf) |>.symm
  obtain rfl : fn = Tryz.f11 := (Option.some.inj (Tryz.func11.symm.trans hfn)).symm
  exact ⟨topIntegersRing_looks, fun j t ht => by
    rw [Tryz.params11] at ht
    have hm : t ∈ [25,25,25] := by simpa using Array.mem_of_getElem? ht
    exact (show Tryz.prog.wantsStandIn t = false by simpa using List.all_eq_true.1 topIntegersRing_std t hm)⟩
theorem topIntegersRing_holds : Rows.TopIntegersRingCardSaid :=
  Claim7.holds_tied_plain_at .later [] [.data, .data, .data, .data, .sentinel, .sentinel, .pinned] true (true, "72a18669e3a2f07bb33e8c9ef8118028dd2ba8cdef94a48170b8cfcc348586ec") true
    topIntegersRing_row (fun _ h => by cases h) topIntegersRing_wf (fun _ h => by cases h) topIntegersRing_row_tie rfl ⟨rfl, rfl⟩ topIntegersRing_main rfl topIntegersRing_at topIntegersRing_goes
#print axioms topIntegersRing_holds
end Go.Proofs.YthnfajboebaajaaGreatDoor
