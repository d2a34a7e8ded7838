import Derived.Test.YtihbebbabjklkaaGreatDoorCards
import Derived.Test.YtihbebbabjklkaaGreatDoorTie
import Derived.Test.YtihbebbabjklkaaGreatDoorAT1e
import Derived.Test.YtihbebbabjklkaaGreatDoorAG10
namespace Go.Proofs.YtihbebbabjklkaaGreatDoor
open Go.ChangeShapes Go.WideShapes Go.ChangeAt Go.ChangeMaps Go.RowKit
theorem linearEvaluatesUpto_reads (os : Os) {H : Type} (enc : TypeId × Value → H) : DataW.whole enc Tryz.prog ((World.laidAll Tryz.prog os Rb.laid).forCall (fun _ _ => 0) ⟨#[], #[.agg #[.slice none 0 0, .string ⟨#[]⟩], .agg #[.slice none 0 0, .string ⟨#[]⟩], .slice none 0 0], []⟩).memory Tryz.f9.params.toList Rows.linearEvaluatesSpec.vars false (#[.agg #[.slice none 0 0, .string ⟨#[]⟩], .agg #[.slice none 0 0, .string ⟨#[]⟩], .slice none 0 0] : Array Value).toList 8 = some ([.agg [.nil, .lit (.string [])], .agg [.nil, .lit (.string [])], .nil], [], []) := by kernel_rfl
set_option maxRecDepth 100000 in
theorem linearEvaluatesUpto_lifted (os : Os) (started : os.Started) (H : Type) (enc : TypeId × Value → H) (F : Stop.Interp) :
    ReturnsInHanded {} Tryz.checked os 9 .any ((Rows.OpenSpec.upto Rows.linearEvaluatesSpec).preRow enc Tryz.prog Tryz.f9 Rows.linearEvaluatesUptoRow.domain false Rows.linearEvaluatesUptoRow.laid) (((Rows.OpenSpec.upto Rows.linearEvaluatesSpec).at F).post enc Tryz.prog Tryz.f9 false true false false) := by
  refine returnsInHanded_of_row (C := Tryz.checked) (s := Rows.OpenSpec.upto Rows.linearEvaluatesSpec) Rb.own started (by kernel_rfl) Tryz.func9
    (Ro.witness (enc := enc) (C := Tryz.checked) (World.laidAll Tryz.prog os Rb.laid) #[.agg #[.slice none 0 0, .string ⟨#[]⟩], .agg #[.slice none 0 0, .string ⟨#[]⟩], .slice none 0 0] (World.laidAll_os _ _ _) (Rb.shaped os _) (by kernel_rfl)
      (OpenSpec.preRow_of_cond 8 (linearEvaluatesUpto_reads os enc) (by kernel_rfl) (fun k hk => by cases hk; kernel_rfl) (by kernel_rfl) (Rb.met os _))) ?_
  intro W base args ds gs before hval0 hW0 _ hcond _ hL _ _
  have hk : Rows.uptoSmall H (ds ++ gs) = true := hcond _ rfl
  have hW : DataW.Whole enc Tryz.prog Tryz.f9.params.toList Rows.linearEvaluatesSpec.vars false W args.toList ds gs before := hW0
  have hval : ∀ (j : Nat) t v, Tryz.f9.params[j]? = some t → args[j]? = some v → Value.okWide Tryz.prog W .any base t v := hval0
  have hW' := hW
  obtain ⟨p, q, hA0, hV, rfl, _, _⟩ := hW
  have hA : DataW.TrodAll enc Tryz.prog W 0 (fun _ => true) true Tryz.f9.params.toList args.toList ds p := hA0
  rw [Tryz.params9] at hA hval
  have hlt : ∀ x ∈ p, x.block < W.heap.size := fun x hx => by simpa using hW'.lt x (by first | exact hx | exact List.mem_append_left _ hx)
  obtain ⟨v0, v1, v2, d0, d1, d2, p0, p1, p2, rfl, rfl, rfl, h0, h1, h2⟩ := trodAll_three hA
  obtain ⟨rfl, rfl⟩ := trodVars_none hV
  have h0k := h0
  obtain ⟨A0, c0, l0, s0, rfl, w0, C0, b0, g0⟩ := Ro.opLnU Tryz.underlying25 Tryz.underlying22 Tryz.underlying23 Tryz.underlying23 (by kernel_rfl) (by kernel_rfl) (by kernel_rfl) (by kernel_rfl) (hval 0 25 v0 rfl rfl) h0
  have h1k := h1
  obtain ⟨A1, c1, l1, s1, rfl, w1, C1, b1, g1⟩ := Ro.opLnU Tryz.underlying25 Tryz.underlying22 Tryz.underlying23 Tryz.underlying23 (by kernel_rfl) (by kernel_rfl) (by kernel_rfl) (by kernel_rfl) (hval 1 25 v1 rfl rfl) h1
  have h2k := h2
  obtain ⟨A2, c2, l2, rfl, w2, C2, b2⟩ := Ro.opSlU Tryz.underlying22 Tryz.underlying23 (by kernel_rfl) (hval 2 22 v2 rfl rfl) h2
  simp only [List.append_nil] at hW'
  refine (PA.LinEvaluates_true A0 c0 l0 s0 A1 c1 l1 s1 A2 c2 l2 W (Rb.of_laid hL) w0 ⟨C0⟩ w1 ⟨C1⟩ w2 ⟨C2⟩ ⟨fun s hs => Ro.bound_at hk (by simp) (b0 s hs), Ro.bound_at hk (by simp) g0⟩ ⟨fun s hs => Ro.bound_at hk (by simp) (b1 s hs), Ro.bound_at hk (by simp) g1⟩ (fun s hs => Ro.bound_at hk (by simp) (b2 s hs))).mono fun e W' ⟨he, hb⟩ => ?_
  subst he
  refine ⟨_, rfl, ?_⟩
  show Rows.linearEvaluatesSpec.post enc Tryz.prog Tryz.f9 false true false false W _ _ W'
  exact ⟨_, _, _, [], _, [], hW', trodAll_mk1 (shut_bool Tryz.underlying4 _), trodAll_mk3 (Below.trod Ro.laidOut (by kernel_rfl) (of_decide_eq_true (by kernel_rfl)) h0k hb fun x hx => hlt x (List.mem_append_left _ (List.mem_append_left _ (hx)))) (Below.trod Ro.laidOut (by kernel_rfl) (of_decide_eq_true (by kernel_rfl)) h1k hb fun x hx => hlt x (List.mem_append_left _ (List.mem_append_right _ (hx)))) (Below.trod Ro.laidOut (by kernel_rfl) (of_decide_eq_true (by kernel_rfl)) h2k hb fun x hx => hlt x (List.mem_append_right _ (hx))), rfl, hb.frame _, fun h => by cases h⟩
theorem linearEvaluatesUpto_name : Tryz.prog.funcNamed "surveyor/surveyorlaw03.LinearEvaluates" = some 9 := by kernel_rfl
theorem linearEvaluatesUpto_c0 : Rows.linearEvaluatesUptoRow.wf (OpenSpec.ofChange (Rows.OpenSpec.upto Rows.linearEvaluatesSpec).bare) = true := by kernel_rfl
theorem linearEvaluatesUpto_c1 : laidOutB Tryz.prog = true := by kernel_rfl
theorem linearEvaluatesUpto_c2 : mapsRowed Tryz.prog = true := by kernel_rfl
theorem linearEvaluatesUpto_c3 : Tryz.f9.params.all (Tryz.prog.readableRec ·) = true := by kernel_rfl
theorem linearEvaluatesUpto_c4 : namedTie Tryz.prog Rows.linearEvaluatesUptoRow.named Rows.linearEvaluatesSpec.vars = true := by kernel_rfl
theorem linearEvaluatesUpto_c5 : (Rows.linearEvaluatesUptoRow.stops == []) = true := by kernel_rfl
theorem linearEvaluatesUpto_c6 : (Tryz.prog.stops == []) = true := by kernel_rfl
theorem linearEvaluatesUpto_c7 : (Rows.linearEvaluatesUptoRow.knobs == []) = true := by kernel_rfl
theorem linearEvaluatesUpto_c8 : (Tryz.prog.stopKnobs == []) = true := by kernel_rfl
theorem linearEvaluatesUpto_c9 : (Rows.linearEvaluatesUptoRow.inPlace == Tryz.prog.inPlace 9) = true := by kernel_rfl
theorem linearEvaluatesUpto_c10 : (Rows.linearEvaluatesUptoRow.unfollowed == Tryz.prog.unfollowed 9) = true := by kernel_rfl
theorem linearEvaluatesUpto_c11 : (Rows.linearEvaluatesUptoRow.recurses == Tryz.prog.recurses 9) = true := by kernel_rfl
theorem linearEvaluatesUpto_c12 : (Rows.linearEvaluatesUptoRow.named == Tryz.prog.varsNamed 9) = true := by kernel_rfl
theorem linearEvaluatesUpto_c13 : (Rows.linearEvaluatesUptoRow.maps == (Tryz.f9.params.toList ++ Rows.linearEvaluatesSpec.plain.varTypes Tryz.prog).any (Tryz.prog.mapsRec ·)) = true := by kernel_rfl
theorem linearEvaluatesUpto_c14 : (Rows.linearEvaluatesUptoRow.ifaces == (Tryz.f9.params.toList ++ Rows.linearEvaluatesSpec.plain.varTypes Tryz.prog).any (Tryz.prog.ifacesRec ·)) = true := by kernel_rfl
theorem linearEvaluatesUpto_c15 : (Rows.linearEvaluatesUptoRow.mapsOut == Tryz.prog.mapsAmong Tryz.f9.resultTypes.toList) = true := by kernel_rfl
theorem linearEvaluatesUpto_c16 : (Rows.linearEvaluatesUptoRow.loops == (Tryz.f9.params.toList ++ Rows.linearEvaluatesSpec.plain.varTypes Tryz.prog).any (Tryz.prog.loopsFrom ·)) = true := by kernel_rfl
theorem linearEvaluatesUpto_c17 : (Rows.linearEvaluatesUptoRow.wideKeys == (Tryz.f9.params.toList ++ Rows.linearEvaluatesSpec.plain.varTypes Tryz.prog ++ Tryz.f9.resultTypes.toList).any (Tryz.prog.wideKeysFrom ·)) = true := by kernel_rfl
theorem linearEvaluatesUpto_c18 : Rows.linearEvaluatesSpec.vars.all (Tryz.prog.varReadable ·) = true := by kernel_rfl
theorem linearEvaluatesUpto_c19 : Tryz.f9.resultTypes.all (fun t => Tryz.prog.readableRec t && decide (t < Tryz.prog.types.size)) = true := by kernel_rfl
theorem linearEvaluatesUpto_c20 : (Rows.linearEvaluatesUptoRow.ifacesOut == Tryz.f9.resultTypes.toList.any (Tryz.prog.ifacesRec ·)) = true := by kernel_rfl
theorem linearEvaluatesUpto_c21 : (Rows.linearEvaluatesUptoRow.loopsOut == Tryz.f9.resultTypes.toList.any (Tryz.prog.loopsFrom ·)) = true := by kernel_rfl
theorem linearEvaluatesUpto_c22 : (Rows.linearEvaluatesUptoRow.plainKeys == Tryz.prog.plainKeys) = true := by kernel_rfl
theorem linearEvaluatesUpto_c23 : Rows.linearEvaluatesUptoRow.shortTexts.isNone = true := by kernel_rfl
theorem linearEvaluatesUpto_c24 : Tryz.prog.stopsHeard = true := by kernel_rfl
theorem linearEvaluatesUpto_c25 : Tryz.prog.mayEnter = true := by kernel_rfl
theorem linearEvaluatesUpto_c26 : (Rows.linearEvaluatesUptoRow.lifted == Tryz.prog.liftsFinal) = true := by kernel_rfl
theorem linearEvaluatesUpto_c27 : (Tryz.prog.make == some Rows.linearEvaluatesUptoRow.make) = true := by kernel_rfl
theorem linearEvaluatesUpto_c28 : (Rows.linearEvaluatesUptoRow.kinds == (if Rows.linearEvaluatesUptoRow.domain.isEmpty then [] else Tryz.f9.params.toList.map fun t => match Tryz.prog.underlying t with | some (.int k) => some k | _ => none)) = true := by kernel_rfl
theorem linearEvaluatesUpto_c29 : (Rows.linearEvaluatesUptoRow.pinned == Rows.linearEvaluatesUptoRow.pinnedBy) = true := by kernel_rfl
theorem linearEvaluatesUpto_c30 : (Rows.linearEvaluatesUptoRow.veiled == (Tryz.f9.params.toList ++ Rows.linearEvaluatesSpec.plain.varTypes Tryz.prog ++ Tryz.f9.resultTypes.toList).any (Tryz.prog.veiledRec ·)) = true := by kernel_rfl
theorem linearEvaluatesUpto_c31 : Rows.linearEvaluatesUptoRow.veiledFits Tryz.prog Tryz.f9.params.toList (Tryz.f9.params.toList ++ Rows.linearEvaluatesSpec.plain.varTypes Tryz.prog ++ Tryz.f9.resultTypes.toList) = true := by kernel_rfl
set_option maxRecDepth 100000 in
theorem linearEvaluatesUpto_facts : joinedFacts Tryz.prog 9 Tryz.f9 (Rows.OpenSpec.upto Rows.linearEvaluatesSpec).bare Rows.linearEvaluatesUptoRow = true := by
  unfold joinedFacts
  exact Rb.and_ (Rb.and_ (Rb.and_ (Rb.and_ (Rb.and_ (Rb.and_ (Rb.and_ (Rb.and_ (Rb.and_ (Rb.and_ (Rb.and_ (Rb.and_ (Rb.and_ (Rb.and_ (Rb.and_ (Rb.and_ (Rb.and_ (Rb.and_ (Rb.and_ (Rb.and_ (Rb.and_ (Rb.and_ (Rb.and_ (Rb.and_ (Rb.and_ (Rb.and_ (Rb.and_ (Rb.and_ (Rb.and_ (Rb.and_ (Rb.and_ (linearEvaluatesUpto_c0) linearEvaluatesUpto_c1) linearEvaluatesUpto_c2) linearEvaluatesUpto_c3) linearEvaluatesUpto_c4) linearEvaluatesUpto_c5) linearEvaluatesUpto_c6) linearEvaluatesUpto_c7) linearEvaluatesUpto_c8) linearEvaluatesUpto_c9) linearEvaluatesUpto_c10) linearEvaluatesUpto_c11) linearEvaluatesUpto_c12) linearEvaluatesUpto_c13) linearEvaluatesUpto_c14) linearEvaluatesUpto_c15) linearEvaluatesUpto_c16) linearEvaluatesUpto_c17) linearEvaluatesUpto_c18) linearEvaluatesUpto_c19) linearEvaluatesUpto_c20) linearEvaluatesUpto_c21) linearEvaluatesUpto_c22) linearEvaluatesUpto_c23) linearEvaluatesUpto_c24) linearEvaluatesUpto_c25) linearEvaluatesUpto_c26) linearEvaluatesUpto_c27) linearEvaluatesUpto_c28) linearEvaluatesUpto_c29) linearEvaluatesUpto_c30) linearEvaluatesUpto_c31
theorem linearEvaluatesUpto_inst : Tryz.f9.isInstance Tryz.pinned.checked.prog Rows.linearEvaluatesUptoRow.origin Rows.linearEvaluatesUptoRow.targs := of_decide_eq_true (by kernel_rfl)
theorem linearEvaluatesUpto_wrap : Tryz.f9.isWrapper Tryz.pinned.checked.prog Rows.linearEvaluatesUptoRow.wrapper Rows.linearEvaluatesUptoRow.mainSum := by unfold Func.isWrapper; first | (rw [if_pos (by decide +kernel)]; kernel_rfl) | (rw [if_neg (by decide +kernel)]; exact ⟨rfl, rfl⟩)
theorem linearEvaluatesUpto_row : Rows.LinearEvaluatesUptoSaid :=
  OpenClaim.holds_of_cond 9 Tryz.f9 rfl rfl rfl rfl rfl rfl rfl ⟨rfl, rfl, rfl, rfl, rfl⟩ rfl rfl rfl rfl rfl linearEvaluatesUpto_name Tryz.func9 linearEvaluatesUpto_facts linearEvaluatesUpto_inst linearEvaluatesUpto_wrap
    (fun os started H enc _ F => by rw [OpenClaim.pre_eq_preRow]; exact linearEvaluatesUpto_lifted os started H enc F)
theorem linearEvaluatesUpto_wf : Rows.linearEvaluatesUptoRow.wfByText (Rows.OpenSpec.upto Rows.linearEvaluatesSpec) = true := by kernel_rfl
theorem linearEvaluatesUpto_main : Tryz.pinned.checked.prog.mainIs = some (true, "94aa445f2dc9a68aa77f6d476013ea7e4907784a5936c6184f49e6badaa0e9d2".toList) := by kernel_rfl
theorem linearEvaluatesUpto_goes : false = Rows.linearEvaluatesUptoRow.goesBy Tryz.pinned.checked.prog := by kernel_rfl
theorem linearEvaluatesUpto_looks : true = Tryz.pinned.checked.prog.looks [] := by kernel_rfl
theorem linearEvaluatesUpto_std : ([25,25,22].all fun u => !Tryz.prog.wantsStandIn u) = true := by kernel_rfl
theorem linearEvaluatesUpto_at : ∀ f fn, Tryz.pinned.checked.prog.funcNamed Rows.linearEvaluatesUptoRow.func = some f → Tryz.pinned.checked.prog.funcs[f]? = some fn → true = Tryz.pinned.checked.prog.looks [] ∧ ∀ (j : Nat) t, fn.params[j]? = some t → Tryz.pinned.checked.prog.wantsStandIn t = false := fun f fn hf hfn => by
  obtain rfl : f = 9 := Option.some.inj (linearEvaluatesUpto_name.symm.trans hf) |>.symm
  obtain rfl : fn = Tryz.f9 := (Option.some.inj (Tryz.func9.symm.trans hfn)).symm
  exact ⟨linearEvaluatesUpto_looks, fun j t ht => by
    rw [Tryz.params9] at ht
    have hm : t ∈ [25,25,22] := by simpa using Array.mem_of_getElem? ht
    exact (show Tryz.prog.wantsStandIn t = false by simpa using List.all_eq_true.1 linearEvaluatesUpto_std t hm)⟩
theorem linearEvaluatesUpto_holds : Rows.LinearEvaluatesUptoCardSaid :=
  Claim7.holds_tied_plain_at .later [] [.data, .data, .data, .data, .sentinel, .sentinel, .pinned] true (true, "94aa445f2dc9a68aa77f6d476013ea7e4907784a5936c6184f49e6badaa0e9d2") true
    linearEvaluatesUpto_row (fun _ h => by cases h) linearEvaluatesUpto_wf (fun _ h => by cases h) linearEvaluatesUpto_row_tie rfl ⟨rfl, rfl⟩ linearEvaluatesUpto_main rfl linearEvaluatesUpto_at linearEvaluatesUpto_goes
#print axioms linearEvaluatesUpto_holds
end Go.Proofs.YtihbebbabjklkaaGreatDoor
