import Derived.Test.YthnfajboebaajaaGreatDoorCards
import Derived.Test.YthnfajboebaajaaGreatDoorTie
import Derived.Test.YthnfajboebaajaaGreatDoorAT1
import Derived.Test.YthnfajboebaajaaGreatDoorAG10
namespace Go.Proofs.YthnfajboebaajaaGreatDoor
open Go.ChangeShapes Go.WideShapes Go.ChangeAt Go.ChangeMaps Go.RowKit
set_option maxRecDepth 100000 in
theorem topRationalsField_lifted (os : Os) (started : os.Started) (H : Type) (enc : TypeId × Value → H) :
    ReturnsInHanded {} Tryz.checked os 12 .any (fun w args => (Rows.topRationalsFieldSpec.pre enc Tryz.prog Tryz.f12 [] false w args ∧ laidMetH Tryz.prog Rows.topRationalsFieldRow.laid w) ∧ sizedMet enc Tryz.prog Tryz.f12 (OpenSpec.ofChange Rows.topRationalsFieldSpec) false w args)
      (Rows.topRationalsFieldSpec.post enc Tryz.prog Tryz.f12 false true false false) := by
  refine returnsInHanded_of_change_and (C := Tryz.checked) (X := fun w _ => laidMetH Tryz.prog Rows.topRationalsFieldRow.laid w) (fun _ _ _ hh h => h.of_heap hh) Rb.own started (by kernel_rfl) Tryz.func12
    (ChangeSpec.witness_shaped (enc := enc) (C := Tryz.checked) (os := os) (X := fun w _ => laidMetH Tryz.prog Rows.topRationalsFieldRow.laid w) false (World.laidAll Tryz.prog os Rb.laid) #[.string ⟨#[]⟩, .string ⟨#[]⟩, .string ⟨#[]⟩] 8 (World.laidAll_os _ _ _)
      (Rb.shaped os _) (by kernel_rfl) (by kernel_rfl) (by kernel_rfl) (Rb.met os _)) ?_
  intro W base args ds gs before hval0 hW _ _ hL _
  have hval : ∀ (j : Nat) t v, Tryz.f12.params[j]? = some t → args[j]? = some v → Value.okWide Tryz.prog W .any base t v := hval0
  have hW' := hW
  obtain ⟨p, q, hA0, hV, rfl, _, _⟩ := hW
  have hA : DataW.TrodAll enc Tryz.prog W 0 (fun _ => true) true Tryz.f12.params.toList args.toList ds p := hA0
  rw [Tryz.params12] at hA hval
  obtain ⟨v0, v1, v2, d0, d1, d2, p0, p1, p2, rfl, rfl, rfl, h0, h1, h2⟩ := trodAll_three hA
  obtain ⟨rfl, rfl⟩ := trodVars_none hV
  obtain ⟨s0, rfl, rfl, rfl, z0⟩ := open_string Tryz.underlying22 (hval 0 22 v0 rfl rfl) h0
  obtain ⟨s1, rfl, rfl, rfl, z1⟩ := open_string Tryz.underlying22 (hval 1 22 v1 rfl rfl) h1
  obtain ⟨s2, rfl, rfl, rfl, z2⟩ := open_string Tryz.underlying22 (hval 2 22 v2 rfl rfl) h2
  simp only [List.append_nil] at hW'
  refine (PA.Rats_true s0 s1 s2 W (Rb.of_laid hL)).mono fun e W' ⟨he, hb⟩ => ?_
  subst he
  exact ⟨_, rfl, _, _, _, [], [], [], hW', trodAll_mk1 (shut_bool Tryz.underlying4 _), trodAll_mk3 (shut_string Tryz.underlying22 z0) (shut_string Tryz.underlying22 z1) (shut_string Tryz.underlying22 z2), rfl, hb.frame _, fun h => by cases h⟩
theorem topRationalsField_name : Tryz.prog.funcNamed "surveyor/surveyortop.TopRationalsField" = some 12 := by kernel_rfl
theorem topRationalsField_c0 : Rows.topRationalsFieldRow.wf (OpenSpec.ofChange Rows.topRationalsFieldSpec) = true := by kernel_rfl
theorem topRationalsField_c1 : laidOutB Tryz.prog = true := by kernel_rfl
theorem topRationalsField_c2 : mapsRowed Tryz.prog = true := by kernel_rfl
theorem topRationalsField_c3 : Tryz.f12.params.all (Tryz.prog.readableRec ·) = true := by kernel_rfl
theorem topRationalsField_c4 : namedTie Tryz.prog Rows.topRationalsFieldRow.named Rows.topRationalsFieldSpec.vars = true := by kernel_rfl
theorem topRationalsField_c5 : (Rows.topRationalsFieldRow.stops == []) = true := by kernel_rfl
theorem topRationalsField_c6 : (Tryz.prog.stops == []) = true := by kernel_rfl
theorem topRationalsField_c7 : (Rows.topRationalsFieldRow.knobs == []) = true := by kernel_rfl
theorem topRationalsField_c8 : (Tryz.prog.stopKnobs == []) = true := by kernel_rfl
theorem topRationalsField_c9 : (Rows.topRationalsFieldRow.inPlace == Tryz.prog.inPlace 12) = true := by kernel_rfl
theorem topRationalsField_c10 : (Rows.topRationalsFieldRow.unfollowed == Tryz.prog.unfollowed 12) = true := by kernel_rfl
theorem topRationalsField_c11 : (Rows.topRationalsFieldRow.recurses == Tryz.prog.recurses 12) = true := by kernel_rfl
theorem topRationalsField_c12 : (Rows.topRationalsFieldRow.named == Tryz.prog.varsNamed 12) = true := by kernel_rfl
theorem topRationalsField_c13 : (Rows.topRationalsFieldRow.maps == (Tryz.f12.params.toList ++ Rows.topRationalsFieldSpec.plain.varTypes Tryz.prog).any (Tryz.prog.mapsRec ·)) = true := by kernel_rfl
theorem topRationalsField_c14 : (Rows.topRationalsFieldRow.ifaces == (Tryz.f12.params.toList ++ Rows.topRationalsFieldSpec.plain.varTypes Tryz.prog).any (Tryz.prog.ifacesRec ·)) = true := by kernel_rfl
theorem topRationalsField_c15 : (Rows.topRationalsFieldRow.mapsOut == Tryz.prog.mapsAmong Tryz.f12.resultTypes.toList) = true := by kernel_rfl
theorem topRationalsField_c16 : (Rows.topRationalsFieldRow.loops == (Tryz.f12.params.toList ++ Rows.topRationalsFieldSpec.plain.varTypes Tryz.prog).any (Tryz.prog.loopsFrom ·)) = true := by kernel_rfl
theorem topRationalsField_c17 : (Rows.topRationalsFieldRow.wideKeys == (Tryz.f12.params.toList ++ Rows.topRationalsFieldSpec.plain.varTypes Tryz.prog ++ Tryz.f12.resultTypes.toList).any (Tryz.prog.wideKeysFrom ·)) = true := by kernel_rfl
theorem topRationalsField_c18 : Rows.topRationalsFieldSpec.vars.all (Tryz.prog.varReadable ·) = true := by kernel_rfl
theorem topRationalsField_c19 : Tryz.f12.resultTypes.all (fun t => Tryz.prog.readableRec t && decide (t < Tryz.prog.types.size)) = true := by kernel_rfl
theorem topRationalsField_c20 : (Rows.topRationalsFieldRow.ifacesOut == Tryz.f12.resultTypes.toList.any (Tryz.prog.ifacesRec ·)) = true := by kernel_rfl
theorem topRationalsField_c21 : (Rows.topRationalsFieldRow.loopsOut == Tryz.f12.resultTypes.toList.any (Tryz.prog.loopsFrom ·)) = true := by kernel_rfl
theorem topRationalsField_c22 : (Rows.topRationalsFieldRow.plainKeys == Tryz.prog.plainKeys) = true := by kernel_rfl
theorem topRationalsField_c23 : Rows.topRationalsFieldRow.shortTexts.isNone = true := by kernel_rfl
theorem topRationalsField_c24 : Tryz.prog.stopsHeard = true := by kernel_rfl
theorem topRationalsField_c25 : Tryz.prog.mayEnter = true := by kernel_rfl
theorem topRationalsField_c26 : (Rows.topRationalsFieldRow.lifted == Tryz.prog.liftsFinal) = true := by kernel_rfl
theorem topRationalsField_c27 : (Tryz.prog.make == some Rows.topRationalsFieldRow.make) = true := by kernel_rfl
theorem topRationalsField_c28 : (Rows.topRationalsFieldRow.kinds == (if Rows.topRationalsFieldRow.domain.isEmpty then [] else Tryz.f12.params.toList.map fun t => match Tryz.prog.underlying t with | some (.int k) => some k | _ => none)) = true := by kernel_rfl
theorem topRationalsField_c29 : (Rows.topRationalsFieldRow.pinned == Rows.topRationalsFieldRow.pinnedBy) = true := by kernel_rfl
theorem topRationalsField_c30 : (Rows.topRationalsFieldRow.veiled == (Tryz.f12.params.toList ++ Rows.topRationalsFieldSpec.plain.varTypes Tryz.prog ++ Tryz.f12.resultTypes.toList).any (Tryz.prog.veiledRec ·)) = true := by kernel_rfl
theorem topRationalsField_c31 : Rows.topRationalsFieldRow.veiledFits Tryz.prog Tryz.f12.params.toList (Tryz.f12.params.toList ++ Rows.topRationalsFieldSpec.plain.varTypes Tryz.prog ++ Tryz.f12.resultTypes.toList) = true := by kernel_rfl
set_option maxRecDepth 100000 in
theorem topRationalsField_facts : joinedFacts Tryz.prog 12 Tryz.f12 Rows.topRationalsFieldSpec Rows.topRationalsFieldRow = true := by
  unfold joinedFacts
  exact Rb.and_ (Rb.and_ (Rb.and_ (Rb.and_ (Rb.and_ (Rb.and_ (Rb.and_ (Rb.and_ (Rb.and_ (Rb.and_ (Rb.and_ (Rb.and_ (Rb.and_ (Rb.and_ (Rb.and_ (Rb.and_ (Rb.and_ (Rb.and_ (Rb.and_ (Rb.and_ (Rb.and_ (Rb.and_ (Rb.and_ (Rb.and_ (Rb.and_ (Rb.and_ (Rb.and_ (Rb.and_ (Rb.and_ (Rb.and_ (Rb.and_ (topRationalsField_c0) topRationalsField_c1) topRationalsField_c2) topRationalsField_c3) topRationalsField_c4) topRationalsField_c5) topRationalsField_c6) topRationalsField_c7) topRationalsField_c8) topRationalsField_c9) topRationalsField_c10) topRationalsField_c11) topRationalsField_c12) topRationalsField_c13) topRationalsField_c14) topRationalsField_c15) topRationalsField_c16) topRationalsField_c17) topRationalsField_c18) topRationalsField_c19) topRationalsField_c20) topRationalsField_c21) topRationalsField_c22) topRationalsField_c23) topRationalsField_c24) topRationalsField_c25) topRationalsField_c26) topRationalsField_c27) topRationalsField_c28) topRationalsField_c29) topRationalsField_c30) topRationalsField_c31
theorem topRationalsField_inst : Tryz.f12.isInstance Tryz.pinned.checked.prog Rows.topRationalsFieldRow.origin Rows.topRationalsFieldRow.targs := of_decide_eq_true (by kernel_rfl)
theorem topRationalsField_wrap : Tryz.f12.isWrapper Tryz.pinned.checked.prog Rows.topRationalsFieldRow.wrapper Rows.topRationalsFieldRow.mainSum := by unfold Func.isWrapper; first | (rw [if_pos (by decide +kernel)]; kernel_rfl) | (rw [if_neg (by decide +kernel)]; exact ⟨rfl, rfl⟩)
theorem topRationalsField_row : Rows.TopRationalsFieldSaid :=
  OpenClaim.holds_of_wide 12 Tryz.f12 rfl rfl rfl rfl rfl rfl rfl ⟨rfl, rfl, rfl, rfl, rfl⟩ rfl rfl rfl rfl rfl topRationalsField_name Tryz.func12 topRationalsField_facts topRationalsField_inst topRationalsField_wrap
    (fun os started H enc _ => topRationalsField_lifted os started H enc)
theorem topRationalsField_wf : Rows.topRationalsFieldRow.wfByText (OpenSpec.ofChange Rows.topRationalsFieldSpec) = true := by kernel_rfl
theorem topRationalsField_main : Tryz.pinned.checked.prog.mainIs = some (true, "72a18669e3a2f07bb33e8c9ef8118028dd2ba8cdef94a48170b8cfcc348586ec".toList) := by kernel_rfl
theorem topRationalsField_goes : false = Rows.topRationalsFieldRow.goesBy Tryz.pinned.checked.prog := by kernel_rfl
theorem topRationalsField_looks : true = Tryz.pinned.checked.prog.looks [] := by kernel_rfl
theorem topRationalsField_std : ([22,22,22].all fun u => !Tryz.prog.wantsStandIn u) = true := by kernel_rfl
theorem topRationalsField_at : ∀ f fn, Tryz.pinned.checked.prog.funcNamed Rows.topRationalsFieldRow.func = some f → Tryz.pinned.checked.prog.funcs[f]? = some fn → true = Tryz.pinned.checked.prog.looks [] ∧ ∀ (j : Nat) t, fn.params[j]? = some t → Tryz.pinned.checked.prog.wantsStandIn t = false := fun f fn hf hfn => by
  obtain rfl : f = 12 := Option.some.inj (topRationalsField_name.symm.trans hf) |>.symm
  obtain rfl : fn = Tryz.f12 := (Option.some.inj (Tryz.func12.symm.trans hfn)).symm
  exact ⟨topRationalsField_looks, fun j t ht => by
    rw [Tryz.params12] at ht
    have hm : t ∈ [22,22,22] := by simpa using Array.mem_of_getElem? ht
    exact (show Tryz.prog.wantsStandIn t = false by simpa using List.all_eq_true.1 topRationalsField_std t hm)⟩
theorem topRationalsField_holds : Rows.TopRationalsFieldCardSaid :=
  Claim7.holds_tied_plain_at .later [] [.data, .data, .data, .data, .sentinel, .sentinel, .pinned] true (true, "72a18669e3a2f07bb33e8c9ef8118028dd2ba8cdef94a48170b8cfcc348586ec") true
    topRationalsField_row (fun _ h => by cases h) topRationalsField_wf (fun _ h => by cases h) topRationalsField_row_tie rfl ⟨rfl, rfl⟩ topRationalsField_main rfl topRationalsField_at topRationalsField_goes
#print axioms topRationalsField_holds
end Go.Proofs.YthnfajboebaajaaGreatDoor
