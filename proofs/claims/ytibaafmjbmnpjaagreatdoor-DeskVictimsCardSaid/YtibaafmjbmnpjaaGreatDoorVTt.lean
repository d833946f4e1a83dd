/- DeskVictims: the call returns true, whatever the world and the tape: the row and its tied card. No condition beyond the card's own. -/
import Derived.Test.YtibaafmjbmnpjaaGreatDoorVTx
import Derived.Test.YtibaafmjbmnpjaaGreatDoorVTf
import Derived.Test.YtibaafmjbmnpjaaGreatDoorVTg
import Derived.Test.YtibaafmjbmnpjaaGreatDoorRows
import Derived.Test.YtibaafmjbmnpjaaGreatDoorCards
import Derived.Test.YtibaafmjbmnpjaaGreatDoorVTi
import Derived.ProofKit
import Derived.Lay
import Derived.LaidOnce
import Derived.SevenTiedAt
set_option linter.unusedVariables false
namespace Go.Proofs.YtibaafmjbmnpjaaGreatDoor
open Go.RowKit Go.ChangeShapes Go.WideShapes Go.ChangeAt

theorem eight_of_shaped {P : Program} {w : World} (hg : P.globals.size ≤ 7) (h0 : 7 < (begin P (fun _ _ => 0) default).world.heap.size) (h : w.ShapedOpen P) : 8 ≤ w.heap.size := by
  obtain ⟨o, o0, h1, _⟩ := h.2 7 hg h0
  have := (Array.getElem?_eq_some_iff.1 h1).1
  omega
theorem returnsInHanded_eight {a : Assume} {C : Checked} {os : Os} {f : FuncId} {fn : Func} {s : ChangeSpec} {conds : List PathCond} {apart fresh handsOn again : Bool} {X : World → Array Value → Prop} {H : Type} {enc : TypeId × Value → H}
    (hX : ∀ (w w' : World) (args : Array Value), w.heap = w'.heap → X w args → X w' args) (hg : C.prog.globals.size ≤ 7) (h0 : 7 < (begin C.prog (fun _ _ => 0) default).world.heap.size)
    (own : ownKnob C.prog.godebug = none) (started : os.Started) (noInit : C.prog.inits.idxOf? f = none) (hfn : C.prog.funcs[f]? = some fn)
    (witness : ∃ (w : World) (tape : Tape) (i : Input), w.os = os ∧ (w.forCall tape i).Shaped C.prog ∧ i.vars = [] ∧ Input.okWide C.prog (w.forCall tape i) .any w.heap.size f i ∧
      ((s.pre enc C.prog fn conds apart (w.forCall tape i).memory i.args ∧ X (w.forCall tape i).memory i.args) ∧ sizedMet enc C.prog fn (OpenSpec.ofChange s) apart (w.forCall tape i).memory i.args) ∧ a.holds C.prog (lone (Frame.enter C.prog f i.args .normal) [] (w.forCall tape i)))
    (contract : ∀ (W : World) (args : Array Value) (ds gs : List (DataW H)) (before : List MemPlace), 8 ≤ W.heap.size → DataW.Whole enc C.prog fn.params.toList s.vars apart W args.toList ds gs before →
      (∀ (j : Nat) t v, fn.params[j]? = some t → args[j]? = some v → ∃ b, Value.okWide C.prog W .any b t v) →
      Calls C.prog f args W fun e W' => ∃ v, e = .returned v ∧ s.post enc C.prog fn apart fresh handsOn again W args v W') :
    ReturnsInHanded a C os f .any (fun w args => (s.pre enc C.prog fn conds apart w args ∧ X w args) ∧ sizedMet enc C.prog fn (OpenSpec.ofChange s) apart w args) (s.post enc C.prog fn apart fresh handsOn again) := by
  refine returnsInHanded_of_calls own started noInit witness ?_
  intro w tape i _ hsh _ hok hpre hholds
  obtain ⟨_, _, _, fn', hfn', _, _, _, _, hval⟩ := hok
  have e : fn' = fn := Option.some.inj (hfn'.symm.trans hfn)
  subst e
  obtain ⟨⟨⟨ds, gs, before, hw, hc⟩, hx⟩, hz⟩ := hpre
  have hw' := DataW.Whole.of_heap (w' := w.forCall tape i) (by rfl) hw
  refine (contract (w.forCall tape i) i.args ds gs before (eight_of_shaped hg h0 hsh) hw' (fun j t v h1 h2 => ⟨_, hval j t v h1 h2⟩)).mono fun e W' ⟨v, he, hp⟩ => ?_
  subst he
  exact ChangeSpec.post_blind hp

theorem own : ownKnob Tryz.prog.godebug = none := by kernel_rfl
theorem globs : Tryz.prog.globals.size ≤ 7 := of_decide_eq_true (by kernel_rfl)
theorem blocks : 7 < (begin Tryz.prog (fun _ _ => 0) default).world.heap.size := of_decide_eq_true (by kernel_rfl)
set_option maxHeartbeats 4000000 in
set_option maxRecDepth 100000 in
theorem lifted (os : Os) (started : os.Started) (H : Type) (enc : TypeId × Value → H) :
    ReturnsInHanded {} Tryz.checked os 3 .any (fun w args => (Rows.deskVictimsSpec.pre enc Tryz.prog Tryz.f3 [] false w args ∧ laidMetH Tryz.prog Rows.deskVictimsRow.laid w) ∧ sizedMet enc Tryz.prog Tryz.f3 (OpenSpec.ofChange Rows.deskVictimsSpec) false w args)
      (Rows.deskVictimsSpec.post enc Tryz.prog Tryz.f3 false true false false) := by
  refine returnsInHanded_eight (C := Tryz.checked) (X := fun w _ => laidMetH Tryz.prog Rows.deskVictimsRow.laid w) (fun _ _ _ hh h => h.of_heap hh) globs blocks own started (by kernel_rfl) Tryz.func3
    (ChangeSpec.witness_shaped (enc := enc) (C := Tryz.checked) (os := os) (X := fun w _ => laidMetH Tryz.prog Rows.deskVictimsRow.laid w) false (World.laidAll Tryz.prog os Rows.deskVictimsRow.laid) #[.int .i64 0] 8 (World.laidAll_os _ _ _)
      (World.shaped_of_ZipB (by kernel_rfl) (by kernel_rfl)) (by kernel_rfl) (by kernel_rfl) (by kernel_rfl)
      (by rw [MakeChecks.laidMetH_plain _ _ _ (by kernel_rfl)]; exact laidMet_laidAll _ (by kernel_rfl) (by kernel_rfl))) ?_
  intro W args ds gs before hl hW hval0
  have hval : ∀ (j : Nat) t v, Tryz.f3.params[j]? = some t → args[j]? = some v → ∃ b, Value.okWide Tryz.prog W .any b t v := hval0
  have hW' := hW
  obtain ⟨p, q, hA0, hV, rfl, _, _⟩ := hW
  have hA : DataW.TrodAll enc Tryz.prog W 0 (fun _ => true) true Tryz.f3.params.toList args.toList ds p := hA0
  rw [Tryz.params3] at hA hval
  obtain ⟨v0, d0, rfl, rfl, h0⟩ := trodAll_one hA
  obtain ⟨_, hv0⟩ := hval 0 3 v0 rfl rfl
  obtain ⟨n, rfl, rfl, rfl, hw⟩ := open_int (by kernel_rfl : Tryz.prog.underlying 3 = some (.int .i64)) hv0 h0
  obtain ⟨rfl, rfl⟩ := trodVars_none hV
  simp only [List.append_nil] at hW'
  refine (Go.Ev.victims_calls n W hl).mono fun e W' ⟨he, hb⟩ => ?_
  subst he
  exact ⟨_, rfl, _, _, _, [], [], [], hW', trodAll_mk1 (shut_bool Tryz.underlying4 _), trodAll_mk1 (shut_int (by kernel_rfl : Tryz.prog.underlying 3 = some (.int .i64)) hw), rfl, hb.frame _, fun h => by cases h⟩
set_option maxHeartbeats 4000000 in
theorem row_holds : Rows.DeskVictimsSaid :=
  OpenClaim.holds_of_wide 3 Tryz.f3 rfl rfl rfl rfl rfl rfl rfl ⟨rfl, rfl, rfl, rfl, rfl⟩ rfl rfl rfl rfl rfl (by as_aux_lemma => kernel_rfl) Tryz.func3 facts
    (of_decide_eq_true (by as_aux_lemma => kernel_rfl)) (by unfold Func.isWrapper; first | (rw [if_pos (by decide +kernel)]; kernel_rfl) | (rw [if_neg (by decide +kernel)]; exact ⟨rfl, rfl⟩))
    (fun os started H enc _ => lifted os started H enc)
theorem named3 : Tryz.prog.funcNamed Rows.deskVictimsRow.func = some 3 := by kernel_rfl
theorem mainIs : Tryz.pinned.checked.prog.mainIs = some (true, "4421842a452639f0cae4eaf9c451dde0ec2f41f303ac500f3434c7270438839e".toList) := by kernel_rfl
theorem standIn : Tryz.prog.wantsStandIn 3 = false := by kernel_rfl
theorem looksT : true = Tryz.prog.looks [] := by kernel_rfl
theorem wfText : Rows.deskVictimsRow.wfByText (OpenSpec.ofChange Rows.deskVictimsSpec) = true := by kernel_rfl
theorem deskVictims_holds : Rows.DeskVictimsCardSaid :=
  Claim7.holds_tied_plain_at .later [] [.pinned, .data] true (true, "4421842a452639f0cae4eaf9c451dde0ec2f41f303ac500f3434c7270438839e") true
    row_holds (fun _ h => by cases h) wfText (fun _ h => by cases h) deskVictims_row_tie rfl ⟨rfl, rfl⟩ mainIs rfl
    (fun f fn hf hfn => by
      obtain rfl : f = 3 := (Option.some.inj (named3.symm.trans hf)).symm
      obtain rfl : fn = Tryz.f3 := (Option.some.inj (Tryz.func3.symm.trans hfn)).symm
      exact ⟨looksT, fun j t ht => by
        have ht' : (#[3] : Array TypeId)[j]? = some t := by rw [← Tryz.params3]; exact ht
        match j, ht' with
        | 0, h => cases h; exact standIn
        | j + 1, h => simp at h⟩)
    goesBy_false
end Go.Proofs.YtibaafmjbmnpjaaGreatDoor
