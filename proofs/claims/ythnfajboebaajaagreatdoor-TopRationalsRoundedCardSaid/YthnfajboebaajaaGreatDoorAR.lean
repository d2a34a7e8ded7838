import Derived.Test.YthnfajboebaajaaGreatDoorCards
import Derived.Test.YthnfajboebaajaaGreatDoorTie
import Derived.Test.YthnfajboebaajaaGreatDoorAT1
import Derived.Test.YthnfajboebaajaaGreatDoorAG10
namespace Go.Proofs.YthnfajboebaajaaGreatDoor
open Go.ChangeShapes Go.WideShapes Go.ChangeAt Go.ChangeMaps Go.RowKit
set_option maxRecDepth 100000 in
theorem topRationalsRounded_lifted (os : Os) (started : os.Started) (H : Type) (enc : TypeId × Value → H) :
    ReturnsInHanded {} Tryz.checked os 15 .any (fun w args => (Rows.topRationalsRoundedSpec.pre enc Tryz.prog Tryz.f15 [] false w args ∧ laidMetH Tryz.prog Rows.topRationalsRoundedRow.laid w) ∧ sizedMet enc Tryz.prog Tryz.f15 (OpenSpec.ofChange Rows.topRationalsRoundedSpec) false w args)
      (Rows.topRationalsRoundedSpec.post enc Tryz.prog Tryz.f15 false true false false) := by
  refine returnsInHanded_of_change_and (C := Tryz.checked) (X := fun w _ => laidMetH Tryz.prog Rows.topRationalsRoundedRow.laid w) (fun _ _ _ hh h => h.of_heap hh) Rb.own started (by kernel_rfl) Tryz.func15
    (ChangeSpec.witness_shaped (enc := enc) (C := Tryz.checked) (os := os) (X := fun w _ => laidMetH Tryz.prog Rows.topRationalsRoundedRow.laid w) false (World.laidAll Tryz.prog os Rb.laid) #[.string ⟨#[]⟩, .string ⟨#[]⟩] 8 (World.laidAll_os _ _ _)
      (Rb.shaped os _) (by kernel_rfl) (by kernel_rfl) (by kernel_rfl) (Rb.met os _)) ?_
  intro W base args ds gs before hval0 hW _ _ hL _
  have hval : ∀ (j : Nat) t v, Tryz.f15.params[j]? = some t → args[j]? = some v → Value.okWide Tryz.prog W .any base t v := hval0
  have hW' := hW
  obtain ⟨p, q, hA0, hV, rfl, _, _⟩ := hW
  have hA : DataW.TrodAll enc Tryz.prog W 0 (fun _ => true) true Tryz.f15.params.toList args.toList ds p := hA0
  rw [Tryz.params15] at hA hval
  obtain ⟨v0, v1, d0, d1, p0, p1, rfl, rfl, rfl, h0, h1⟩ := trodAll_two hA
  obtain ⟨rfl, rfl⟩ := trodVars_none hV
  obtain ⟨s0, rfl, rfl, rfl, z0⟩ := open_string Tryz.underlying22 (hval 0 22 v0 rfl rfl) h0
  obtain ⟨s1, rfl, rfl, rfl, z1⟩ := open_string Tryz.underlying25 (hval 1 25 v1 rfl rfl) h1
  simp only [List.append_nil] at hW'
  refine (PA.Rounded_true s0 s1 W (Rb.of_laid hL)).mono fun e W' ⟨he, hb⟩ => ?_
  subst he
  exact ⟨_, rfl, _, _, _, [], [], [], hW', trodAll_mk1 (shut_bool Tryz.underlying4 _), trodAll_mk2 (shut_string Tryz.underlying22 z0) (shut_string Tryz.underlying25 z1), rfl, hb.frame _, fun h => by cases h⟩
theorem topRationalsRounded_name : Tryz.prog.funcNamed "surveyor/surveyortop.TopRationalsRounded" = some 15 := by kernel_rfl
theorem topRationalsRounded_c0 : Rows.topRationalsRoundedRow.wf (OpenSpec.ofChange Rows.topRationalsRoundedSpec) = true := by kernel_rfl
theorem topRationalsRounded_c1 : laidOutB Tryz.prog = true := by kernel_rfl
theorem topRationalsRounded_c2 : mapsRowed Tryz.prog = true := by kernel_rfl
theorem topRationalsRounded_c3 : Tryz.f15.params.all (Tryz.prog.readableRec ·) = true := by kernel_rfl
theorem topRationalsRounded_c4 : namedTie Tryz.prog Rows.topRationalsRoundedRow.named Rows.topRationalsRoundedSpec.vars = true := by kernel_rfl
theorem topRationalsRounded_c5 : (Rows.topRationalsRoundedRow.stops == []) = true := by kernel_rfl
theorem topRationalsRounded_c6 : (Tryz.prog.stops == []) = true := by kernel_rfl
theorem topRationalsRounded_c7 : (Rows.topRationalsRoundedRow.knobs == []) = true := by kernel_rfl
theorem topRationalsRounded_c8 : (Tryz.prog.stopKnobs == []) = true := by kernel_rfl
theorem topRationalsRounded_c9 : (Rows.topRationalsRoundedRow.inPlace == Tryz.prog.inPlace 15) = true := by kernel_rfl
theorem topRationalsRounded_c10 : (Rows.topRationalsRoundedRow.unfollowed == Tryz.prog.unfollowed 15) = true := by kernel_rfl
theorem topRationalsRounded_c11 : (Rows.topRationalsRoundedRow.recurses == Tryz.prog.recurses 15) = true := by kernel_rfl
theorem topRationalsRounded_c12 : (Rows.topRationalsRoundedRow.named == Tryz.prog.varsNamed 15) = true := by kernel_rfl
theorem topRationalsRounded_c13 : (Rows.topRationalsRoundedRow.maps == (Tryz.f15.params.toList ++ Rows.topRationalsRoundedSpec.plain.varTypes Tryz.prog).any (Tryz.prog.mapsRec ·)) = true := by kernel_rfl
theorem topRationalsRounded_c14 : (Rows.topRationalsRoundedRow.ifaces == (Tryz.f15.params.toList ++ Rows.topRationalsRoundedSpec.plain.varTypes Tryz.prog).any (Tryz.prog.ifacesRec ·)) = true := by kernel_rfl
theorem topRationalsRounded_c15 : (Rows.topRationalsRoundedRow.mapsOut == Tryz.prog.mapsAmong Tryz.f15.resultTypes.toList) = true := by kernel_rfl
theorem topRationalsRounded_c16 : (Rows.topRationalsRoundedRow.loops == (Tryz.f15.params.toList ++ Rows.topRationalsRoundedSpec.plain.varTypes Tryz.prog).any (Tryz.prog.loopsFrom ·)) = true := by kernel_rfl
theorem topRationalsRounded_c17 : (Rows.topRationalsRoundedRow.wideKeys == (Tryz.f15.params.toList ++ Rows.topRationalsRoundedSpec.plain.varTypes Tryz.prog ++ Tryz.f15.resultTypes.toList).any (Tryz.prog.wideKeysFrom ·)) = true := by kernel_rfl
theorem topRationalsRounded_c18 : Rows.topRationalsRoundedSpec.vars.all (Tryz.prog.varReadable ·) = true := by kernel_rfl
theorem topRationalsRounded_c19 : Tryz.f15.resultTypes.all (fun t => Tryz.prog.readableRec t && decide (t < Tryz.prog.types.size)) = true := by kernel_rfl
theorem topRationalsRounded_c20 : (Rows.topRationalsRoundedRow.ifacesOut == Tryz.f15.resultTypes.toList.any (Tryz.prog.ifacesRec ·)) = true := by kernel_rfl
theorem topRationalsRounded_c21 : (Rows.topRationalsRoundedRow.loopsOut == Tryz.f15.resultTypes.toList.any (Tryz.prog.loopsFrom ·)) = true := by kernel_rfl
theorem topRationalsRounded_c22 : (Rows.topRationalsRoundedRow.plainKeys == Tryz.prog.plainKeys) = true := by kernel_rfl
theorem topRationalsRounded_c23 : Rows.topRationalsRoundedRow.shortTexts.isNone = true := by kernel_rfl
theorem topRationalsRounded_c24 : Tryz.prog.stopsHeard = true := by kernel_rfl
theorem topRationalsRounded_c25 : Tryz.prog.mayEnter = true := by kernel_rfl
theorem topRationalsRounded_c26 : (Rows.topRationalsRoundedRow.lifted == Tryz.prog.liftsFinal) = true := by kernel_rfl
theorem topRationalsRounded_c27 : (Tryz.prog.make == some Rows.topRationalsRoundedRow.make) = true := by kernel_rfl
theorem topRationalsRounded_c28 : (Rows.topRationalsRoundedRow.kinds == (if Rows.topRationalsRoundedRow.domain.isEmpty then [] else Tryz.f15.params.toList.map fun t => match Tryz.prog.underlying t with | some (.int k) => some k | _ => none)) = true := by kernel_rfl
theorem topRationalsRounded_c29 : (Rows.topRationalsRoundedRow.pinned == Rows.topRationalsRoundedRow.pinnedBy) = true := by kernel_rfl
theorem topRationalsRounded_c30 : (Rows.topRationalsRoundedRow.veiled == (Tryz.f15.params.toList ++ Rows.topRationalsRoundedSpec.plain.varTypes Tryz.prog ++ Tryz.f15.resultTypes.toList).any (Tryz.prog.veiledRec ·)) = true := by kernel_rfl
theorem topRationalsRounded_c31 : Rows.topRationalsRoundedRow.veiledFits Tryz.prog Tryz.f15.params.toList (Tryz.f15.params.toList ++ Rows.topRationalsRoundedSpec.plain.varTypes Tryz.prog ++ Tryz.f15.resultTypes.toList) = true := by kernel_rfl
set_option maxRecDepth 100000 in
theorem topRationalsRounded_facts : joinedFacts Tryz.prog 15 Tryz.f15 Rows.topRationalsRoundedSpec Rows.topRationalsRoundedRow = true := by
  unfold joinedFacts
  exact Rb.and_ (Rb.and_ (Rb.and_ (Rb.and_ (Rb.and_ (Rb.and_ (Rb.and_ (Rb.and_ (Rb.and_ (Rb.and_ (Rb.and_ (Rb.and_ (Rb.and_ (Rb.and_ (Rb.and_ (Rb.and_ (Rb.and_ (Rb.and_ (Rb.and_ (Rb.and_ (Rb.and_ (Rb.and_ (Rb.and_ (Rb.and_ (Rb.and_ (Rb.and_ (Rb.and_ (Rb.and_ (Rb.and_ (Rb.and_ (Rb.and_ (topRationalsRounded_c0) topRationalsRounded_c1) topRationalsRounded_c2) topRationalsRounded_c3) topRationalsRounded_c4) topRationalsRounded_c5) topRationalsRounded_c6) topRationalsRounded_c7) topRationalsRounded_c8) topRationalsRounded_c9) topRationalsRounded_c10) topRationalsRounded_c11) topRationalsRounded_c12) topRationalsRounded_c13) topRationalsRounded_c14) topRationalsRounded_c15) topRationalsRounded_c16) topRationalsRounded_c17) topRationalsRounded_c18) topRationalsRounded_c19) topRationalsRounded_c20) topRationalsRounded_c21) topRationalsRounded_c22) topRationalsRounded_c23) topRationalsRounded_c24) topRationalsRounded_c25) topRationalsRounded_c26) topRationalsRounded_c27) topRationalsRounded_c28) topRationalsRounded_c29) topRationalsRounded_c30) topRationalsRounded_c31
theorem topRationalsRounded_inst : Tryz.f15.isInstance Tryz.pinned.checked.prog Rows.topRationalsRoundedRow.origin Rows.topRationalsRoundedRow.targs := of_decide_eq_true (by kernel_rfl)
theorem topRationalsRounded_wrap : Tryz.f15.isWrapper Tryz.pinned.checked.prog Rows.topRationalsRoundedRow.wrapper Rows.topRationalsRoundedRow.mainSum := by unfold Func.isWrapper; first | (rw [if_pos (by decide +kernel)]; kernel_rfl) | (rw [if_neg (by decide +kernel)]; exact ⟨rfl, rfl⟩)
theorem topRationalsRounded_row : Rows.TopRationalsRoundedSaid :=
  OpenClaim.holds_of_wide 15 Tryz.f15 rfl rfl rfl rfl rfl rfl rfl ⟨rfl, rfl, rfl, rfl, rfl⟩ rfl rfl rfl rfl rfl topRationalsRounded_name Tryz.func15 topRationalsRounded_facts topRationalsRounded_inst topRationalsRounded_wrap
    (fun os started H enc _ => topRationalsRounded_lifted os started H enc)
theorem topRationalsRounded_wf : Rows.topRationalsRoundedRow.wfByText (OpenSpec.ofChange Rows.topRationalsRoundedSpec) = true := by kernel_rfl
theorem topRationalsRounded_main : Tryz.pinned.checked.prog.mainIs = some (true, "72a18669e3a2f07bb33e8c9ef8118028dd2ba8cdef94a48170b8cfcc348586ec".toList) := by kernel_rfl
theorem topRationalsRounded_goes : false = Rows.topRationalsRoundedRow.goesBy Tryz.pinned.checked.prog := by kernel_rfl
theorem topRationalsRounded_looks : true = Tryz.pinned.checked.prog.looks [] := by kernel_rfl
theorem topRationalsRounded_std : ([22,25].all fun u => !Tryz.prog.wantsStandIn u) = true := by kernel_rfl
theorem topRationalsRounded_at : ∀ f fn, Tryz.pinned.checked.prog.funcNamed Rows.topRationalsRoundedRow.func = some f → Tryz.pinned.checked.prog.funcs[f]? = some fn → true = Tryz.pinned.checked.prog.looks [] ∧ ∀ (j : Nat) t, fn.params[j]? = some t → Tryz.pinned.checked.prog.wantsStandIn t = false := fun f fn hf hfn => by
  obtain rfl : f = 15 := Option.some.inj (topRationalsRounded_name.symm.trans hf) |>.symm
  obtain rfl : fn = Tryz.f15 := (Option.some.inj (Tryz.func15.symm.trans hfn)).symm
  exact ⟨topRationalsRounded_looks, fun j t ht => by
    rw [Tryz.params15] at ht
    have hm : t ∈ [22,25] := by simpa using Array.mem_of_getElem? ht
    exact (show Tryz.prog.wantsStandIn t = false by simpa using List.all_eq_true.1 topRationalsRounded_std t hm)⟩
theorem topRationalsRounded_holds : Rows.TopRationalsRoundedCardSaid :=
  Claim7.holds_tied_plain_at .later [] [.data, .data, .data, .data, .sentinel, .sentinel, .pinned] true (true, "72a18669e3a2f07bb33e8c9ef8118028dd2ba8cdef94a48170b8cfcc348586ec") true
    topRationalsRounded_row (fun _ h => by cases h) topRationalsRounded_wf (fun _ h => by cases h) topRationalsRounded_row_tie rfl ⟨rfl, rfl⟩ topRationalsRounded_main rfl topRationalsRounded_at topRationalsRounded_goes
#print axioms topRationalsRounded_holds
end Go.Proofs.YthnfajboebaajaaGreatDoor
