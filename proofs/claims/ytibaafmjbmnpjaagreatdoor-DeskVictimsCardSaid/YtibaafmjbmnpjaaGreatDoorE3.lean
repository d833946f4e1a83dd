/- The evaluator and its soundness, part 3: what it tells of a call of a Go function is what the model does, for every tape. -/
import Derived.Test.YtibaafmjbmnpjaaGreatDoorE2
import Derived.Scope
import Derived.RangeFuncRecord
import Derived.Recover
import Derived.RangeFuncLeaves
import Derived.Test.YtibaafmjbmnpjaaGreatDoorProg
import Derived.KernelRfl
import Derived.Laws.Externs
import Derived.Shelf.SlIterI.Nil
import Derived.Shelf.SlIter.Nil
import Derived.Sort.Walk0
import Derived.Shelf.SortM.Plain
import Derived.Shelf.SortM.SortNone
import Derived.Ground.GgzProg
import Derived.Ground.SlgmProg
set_option linter.unnecessarySimpa false
set_option linter.unusedVariables false
set_option linter.unusedSimpArgs false
/- Regions whose order is open: effects, checks, the core. -/
namespace Go.Ev
open Go Go.RowKit

section
variable {ro : Option Nat} {P : Program} {N : Nat → Prop} {nt : Nat} {Γ Γ0 Δ : Ctx} {h h' : Hp} {w w0 w' : World} {v : AV} {f f' g : F} {a : Act} {o : Oper} {callR : Nat → AV → Hp → R} {r : R} {x : X} {ops : Array Oper} {A A' : List Nat} {listed : Array Bool}

theorem sameD_inv {d : Option Tmp} {k : X} (e : sameD d v f k = x) (hx : x.good) : k = x ∧ ∀ t, d = some t → F.get t f = v := by
  cases d with
  | none => exact ⟨e, fun t ht => by cases ht⟩
  | some t =>
    change cond (eqAV v (F.get t f)) k .no = x at e
    cases hq : eqAV v (F.get t f)
    · rw [hq] at e; exact absurd e.symm (X.good_ne hx)
    · rw [hq] at e
      exact ⟨e, fun t' ht => by cases ht; exact (eqAV_eq _ _ hq).symm⟩
theorem rePure_inv {k : X} (hcl : clsOf P o = .pure) (e : rePure P ops o f h k = x) (hx : x.good) : k = x ∧ ReOK P ops f h o := by
  rcases guard_split e hx with ⟨hg, e1⟩ | ⟨hg, e1⟩
  · cases hr : exPure P o.op f h with
    | fail s => rw [hr] at e1; exact absurd e1.symm (hx _)
    | pan _ _ => rw [hr] at e1; exact absurd e1.symm (X.good_ne hx)
    | ok v h' =>
      rw [hr] at e1
      obtain ⟨e2, h2⟩ := sameD_inv (show sameD o.dst v f k = x from e1) hx
      exact ⟨e2, .inl ⟨hcl, .inl ⟨hg, v, h', hr, h2⟩⟩⟩
  · obtain ⟨e2, h2⟩ := sameD_inv e1 hx
    exact ⟨e2, .inl ⟨hcl, .inr ⟨hg, h2⟩⟩⟩
theorem reAlloc_inv {k : X} (hcl : clsOf P o = .alloc) (e : reAlloc P o f h k = x) (hx : x.good) : k = x ∧ ReOK P ops f h o := by
  unfold reAlloc at e
  cases hd : o.dst with
  | none => rw [hd] at e; exact absurd e.symm (X.good_ne hx)
  | some d =>
    rw [hd] at e
    change blkK (F.get d f) X.no _ = x at e
    obtain ⟨b, hb, e1⟩ : ∃ b, blkK (F.get d f) none some = some b ∧ R.rec (motive := fun _ => X) X.fail (fun v g => cond (eqAV v (F.get d f)) (cond (eqOb (obAt b g) (obAt b h)) k .no) .no) (fun _ _ => .no) (exO P o.op f ⟨h.t, b⟩) = x := by
      cases hfd : F.get d f with
      | ptr b q => rw [hfd] at e; exact ⟨b, rfl, e⟩
      | slc b q n c es ex => rw [hfd] at e; exact ⟨b, rfl, e⟩
      | _ => rw [hfd] at e; exact absurd e.symm (X.good_ne hx)
    cases hr : exO P o.op f ⟨h.t, b⟩ with
    | fail s => rw [hr] at e1; exact absurd e1.symm (hx _)
    | pan _ _ => rw [hr] at e1; exact absurd e1.symm (X.good_ne hx)
    | ok v g =>
      rw [hr] at e1
      change cond (eqAV v (F.get d f)) (cond (eqOb (obAt b g) (obAt b h)) k .no) .no = x at e1
      cases hq : eqAV v (F.get d f)
      · rw [hq] at e1; exact absurd e1.symm (X.good_ne hx)
      · rw [hq, cond_true] at e1
        cases hq2 : eqOb (obAt b g) (obAt b h)
        · rw [hq2] at e1; exact absurd e1.symm (X.good_ne hx)
        · rw [hq2, cond_true] at e1
          obtain ⟨hgd, _, ob, mk, hal, hn, hv, hh, hrun⟩ := cls_alloc hcl hr
          refine ⟨e1, .inr ⟨hcl, ob, mk, b, d, hd, hgd, hal, ?_, ?_⟩⟩
          · rw [← eqAV_eq _ _ hq, hv]
          · have := eqOb_eq hq2
            rw [hh, obAt_setT_same] at this; exact this.symm
theorem reAll_inv : ∀ (re : List Nat) {k : X}, reAll P ops re f h k = x → x.good → k = x ∧ ∀ e ∈ re, ∀ o, ops[e]? = some o → ReOK P ops f h o
  | [], k, e, hx => ⟨e, fun e he => by cases he⟩
  | e0 :: re, k, e, hx => by
    change reAt P ops e0 f h (reAll P ops re f h k) = x at e
    unfold reAt at e
    cases ho : ops[e0]? with
    | none => rw [ho] at e; exact absurd e.symm (X.good_ne hx)
    | some o =>
      rw [ho] at e
      change re1 P ops o f h (reAll P ops re f h k) = x at e
      unfold re1 at e
      have key : reAll P ops re f h k = x ∧ ReOK P ops f h o := by
        cases hcl : clsOf P o with
        | pure => rw [hcl] at e; exact rePure_inv hcl e hx
        | alloc => rw [hcl] at e; exact reAlloc_inv hcl e hx
        | store => rw [hcl] at e; exact absurd e.symm (X.good_ne hx)
        | eff => rw [hcl] at e; exact absurd e.symm (X.good_ne hx)
      obtain ⟨h1, h2⟩ := reAll_inv re key.1 hx
      refine ⟨h1, fun e he o' ho' => ?_⟩
      rcases List.mem_cons.1 he with rfl | he
      · rw [ho] at ho'; cases ho'; exact key.2
      · exact h2 e he o' ho'

theorem exE_does (hc : CallOK P N callR) (hR : Rel N Γ h w) (hf : FR nt Γ f a) (e : exE P callR o.op f h = .ok v h') : DoesY true P N Γ w (execOp a.eval o) (.ok v h') := by
  cases ho : o.op with
  | call c => rw [ho] at e; exact exCall_does (.inl rfl) hc hR hf ho (show exCall P callR c f h = .ok v h' from e) R.good_ok
  | panic y => rw [ho] at e; exact (no_ok (e := e)).elim
  | defer c => rw [ho] at e; exact (no_ok (e := e)).elim
  | _ => refine .inl (exO_ok hR hf ?_).does; rw [ho] at e ⊢; exact e
theorem putD_other (hdo : okD nt o) (hn : nt ≤ 272) : ∀ t, o.dst ≠ some t → F.get t (putD o.dst v f) = F.get t f := fun t ht => by
  cases hd : o.dst with
  | none => rfl
  | some d =>
    have h1 : @LT.lt Nat _ d 272 := Nat.lt_of_lt_of_le (hdo d hd) hn
    exact F.get_set_ne' _ _ h1 (fun e => ht (by rw [hd, e]))
theorem putD_same {d : Tmp} (hd : o.dst = some d) : F.get d (putD o.dst v f) = v := by rw [hd]; exact F.get_set_same _ _ _
theorem putD_ds : (putD o.dst v f).ds = f.ds := by cases o.dst <;> rfl

theorem exE_noDef (e : exE P callR o.op f h = .ok v h') : NoDef ro o := .inr fun c ho => by
  rw [ho] at e
  exact (no_ok (e := e)).elim
/-- an effect comes up -/
theorem DRel.eff {Q : Exit → Act → World → Prop} {h2 : Hp} (hc : CallOK P N callR) (D : DRel P N nt ops Γ0 w0 A listed Γ f h a w) (S : RText P ops) (hd : ∀ o ∈ ops.toList, okD nt o) {i : Nat} (hi : ops[i]? = some o) (hr : i ∈ Region.ready .any ops listed)
    (hA : ∀ e, e ∈ A' ↔ e ∈ A ∨ e = i) (hg : GYes ops o f) (e : exE P callR o.op f h = .ok v h') (hext : ∀ Δ w', Rel N Δ h' w' → Rel N Δ h2 w') (hre : ∀ e q, e ≠ i → Wait ops A listed e q → ReOK P ops (putD o.dst v f) h2 q) :
    wpOpIn (fen ro) 0 P ops Q i (fun a' w' => ∃ Γ', DRel P N nt ops Γ0 w0 A' (listed.setIfInBounds i true) Γ' (putD o.dst v f) h2 a' w') a w := by
  have hf := D.fr hd
  have hg' : GYes ops o (maskF (waits ops A listed) f) := fun y n => by rw [← D.guard S hd hi hr]; exact hg y n
  have hdo : okD nt o := hd o (by rw [Array.mem_toList_iff]; exact Array.mem_of_getElem? hi)
  rw [exE_congr (D.opd S hd hi hr)] at e
  refine wpOp_yes hi (hg'.wanted hf) (does_k (exE_noDef e) (exE_does hc D.rel hf e) fun Δ val w' g1 g2 g3 g4 => ⟨Δ, ?_⟩)
  have g3 := hext Δ w' g3
  refine D.fire S hd hi hr hA (D.le.trans g1) g1.z (D.bel.trans g4) g3 (putD_other hdo D.small) putD_ds (fun d hd' => by rw [putD_same hd']; exact g2) hre (fun e q hne hw => ?_)
  exact ((D.num e q hw).frame fun d hd' => putD_other hdo D.small d (S.dst i e o q d hi hw.2.2 (Ne.symm hne) hd')).mono D.rel g1 g3
theorem DRel.effNo {Q : Exit → Act → World → Prop} (D : DRel P N nt ops Γ0 w0 A listed Γ f h a w) (S : RText P ops) (hd : ∀ o ∈ ops.toList, okD nt o) {i : Nat} (hi : ops[i]? = some o) (hr : i ∈ Region.ready .any ops listed)
    (hg : GNo ops o f) (hre : ∀ e q, e ≠ i → Wait ops A listed e q → ReOK P ops (putD o.dst un f) h q) :
    wpOpIn (fen ro) 0 P ops Q i (fun a' w' => ∃ Γ', DRel P N nt ops Γ0 w0 (i :: A) (listed.setIfInBounds i true) Γ' (putD o.dst un f) h a' w') a w := by
  have hf := D.fr hd
  have hg' : GNo ops o (maskF (waits ops A listed) f) := fun y n => by rw [← D.guard S hd hi hr]; exact hg y n
  have hdo : okD nt o := hd o (by rw [Array.mem_toList_iff]; exact Array.mem_of_getElem? hi)
  refine wpOp_no hi (hg'.wanted hf) ⟨Γ, ?_⟩
  refine D.fire S hd hi hr (by simp [or_comm]) D.le (Ctx.Le.refl Γ).z D.bel D.rel (putD_other hdo D.small) putD_ds (fun d hd' => by rw [putD_same hd']; exact VR_un Γ) hre (fun e q hne hw => ?_)
  exact (D.num e q hw).frame fun d hd' => putD_other hdo D.small d (S.dst i e o q d hi hw.2.2 (Ne.symm hne) hd')

/-! an effect that panics: the targets of early ones that may still come are forgotten -/
theorem forget_get {t : Tmp} (hn : nt ≤ 272) (hd : ∀ o ∈ ops.toList, okD nt o) : ∀ re : List Nat, F.get t (forgetL ops re f) = .top ∨ (F.get t (forgetL ops re f) = F.get t f ∧ ∀ e ∈ re, ∀ o, ops[e]? = some o → o.dst ≠ some t)
  | [] => .inr ⟨rfl, fun e he => by cases he⟩
  | e :: re => by
    have ih := forget_get (t := t) hn hd re
    cases ho : ops[e]? with
    | none =>
      have e0 : forgetL ops (e :: re) f = forgetL ops re f := by show Option.rec (motive := fun _ => F) _ _ ops[e]? = _; rw [ho]; rfl
      rw [e0]
      rcases ih with ih | ⟨h1, h2⟩
      · exact .inl ih
      · refine .inr ⟨h1, fun e' he' o' ho' => ?_⟩
        rcases List.mem_cons.1 he' with rfl | he'
        · rw [ho] at ho'; cases ho'
        · exact h2 e' he' o' ho'
    | some o =>
      have e0 : forgetL ops (e :: re) f = putD o.dst .top (forgetL ops re f) := by show Option.rec (motive := fun _ => F) _ _ ops[e]? = _; rw [ho]; rfl
      have hdo : okD nt o := hd o (by rw [Array.mem_toList_iff]; exact Array.mem_of_getElem? ho)
      rw [e0]
      by_cases hot : o.dst = some t
      · exact .inl (putD_same hot)
      · rw [putD_other hdo hn t hot]
        rcases ih with ih | ⟨h1, h2⟩
        · exact .inl ih
        · refine .inr ⟨h1, fun e' he' o' ho' => ?_⟩
          rcases List.mem_cons.1 he' with rfl | he'
          · rw [ho] at ho'; cases ho'; exact hot
          · exact h2 e' he' o' ho'
theorem forget_ds : ∀ re : List Nat, (forgetL ops re f).ds = f.ds
  | [] => rfl
  | e :: re => by
    show (Option.rec (motive := fun _ => F) (forgetL ops re f) (fun o => putD o.dst .top (forgetL ops re f)) ops[e]?).ds = _
    cases ops[e]? with
    | none => exact forget_ds re
    | some o => exact putD_ds.trans (forget_ds re)
theorem onP_inv {op : Op} {fp : F} {r : Ev.R} {k : AV → Hp → X} (e : onP op fp r k = x) (hx : x.good) : (∃ v h, r = .ok v h ∧ k v h = x) ∨ ∃ v h c, op = .call c ∧ r = .pan v h ∧ X.pan v fp h = x := by
  cases r with
  | fail s => exact absurd e.symm (hx _)
  | ok v h => exact .inl ⟨v, h, rfl, e⟩
  | pan v h =>
    have e : OpK.rec (motive := fun _ => X) X.no (fun _ => X.pan v fp h) (fun _ => .no) (fun _ => .no) (opk op) = x := e
    cases op <;> first | exact absurd e.symm (X.good_ne hx) | exact .inr ⟨v, h, _, rfl, rfl, e⟩
theorem DRel.effP {K : Act → World → Prop} {re : List Nat} (hc : CallOK P N callR) (D : DRel P N nt ops Γ0 w0 A listed Γ f h a w) (S : RText P ops) (hd : ∀ o ∈ ops.toList, okD nt o) {i : Nat} (hi : ops[i]? = some o) (hr : i ∈ Region.ready .any ops listed)
    (hg : GYes ops o f) {c : Call} (ho : o.op = .call c) (e : exE P callR o.op f h = .pan v h') (hre : ∀ e q, Wait ops A listed e q → e ∈ re) :
    wpOpIn (fen ro) 0 P ops (PostX N nt Γ0 w0 (.pan v (forgetL ops re f) h')) i K a w := by
  have hf := D.fr hd
  have hg' : GYes ops o (maskF (waits ops A listed) f) := fun y n => by rw [← D.guard S hd hi hr]; exact hg y n
  have hdo : okD nt o := hd o (by rw [Array.mem_toList_iff]; exact Array.mem_of_getElem? hi)
  rw [exE_congr (D.opd S hd hi hr)] at e
  rw [ho] at e
  have hnd : NoDef ro o := .inr fun c' ho' => by rw [ho] at ho'; cases ho'
  refine wpOp_yes hi (hg'.wanted hf) (does_wp (Γ0 := Γ0) (w0 := w0) (r := .pan v h') hnd D.le D.bel hf hdo (exCall_does (.inl rfl) hc D.rel hf ho (show exCall P callR c _ h = .pan v h' from e) R.good_pan) (fun v2 h2 hr2 => by cases hr2) fun v2 h2 hr2 Δ val w' g1 g2 g3 g4 g5 => ?_)
  cases hr2
  refine ⟨Δ, val, rfl, g1, g4, g3, ⟨fun t => ?_, ?_, g5.size, g5.small⟩, g2⟩
  · rcases forget_get (f := f) (t := t) D.small hd re with h1 | ⟨h1, h2⟩
    · rw [h1]; simp only [VR]
    · rw [h1]
      have h3 := g5.get t
      rwa [mask_out (fun d hm => by
        obtain ⟨e', q, hw, hq⟩ := mem_waits.1 hm
        exact Nat.lt_of_lt_of_le (hd q (by rw [Array.mem_toList_iff]; exact Array.mem_of_getElem? hw.2.2) d hq) D.small) fun hm => by
        obtain ⟨e', q, hw, hq⟩ := mem_waits.1 hm
        exact h2 e' (hre e' q hw) q hw.2.2 hq] at h3
  · rw [forget_ds]
    have := g5.ds
    rwa [mask_ds] at this

/-! what is left -/
theorem count_set : ∀ (l : List Bool) (i : Nat), l[i]? = some false → (l.set i true).count false + 1 = l.count false
  | [], i, h => by simp at h
  | b :: l, 0, h => by simp at h; subst h; simp
  | b :: l, i + 1, h => by
    have := count_set l i (by simpa using h)
    simp only [List.set_cons_succ, List.count_cons]; omega
def unl (listed : Array Bool) : Nat := listed.toList.count false
theorem unl_set {i : Nat} (h : listed.getD i true = false) : unl (listed.setIfInBounds i true) + 1 = unl listed := by
  unfold unl
  rw [Array.toList_setIfInBounds]
  apply count_set
  rcases Nat.lt_or_ge i listed.size with h' | h'
  · simp [h'] at h ⊢; exact h
  · simp [Array.getElem?_eq_none h'] at h
theorem unl_zero (h : unl listed = 0) : ∀ i, i < listed.size → listed.getD i false = true := fun i hi => by
  unfold unl at h
  rw [List.count_eq_zero] at h
  cases hb : listed[i]
  · exact absurd (by rw [Array.mem_toList_iff, ← hb]; exact Array.getElem_mem hi) h
  · simp [hi, hb]
theorem all_listed (S : RText P ops) (hl : listed.size = ops.size) (hr : Region.ready .any ops listed = []) : ∀ i, i < ops.size → listed.getD i false = true := by
  intro i
  induction i using Nat.strongRecOn with
  | _ i ih =>
    intro hi
    cases hb : listed.getD i false
    · exfalso
      have hmem : i ∈ Region.ready .any ops listed := by
        rw [mem_ready]
        refine ⟨?_, ops[i], by simp [hi], fun e he hbd => ?_⟩
        · have hi' : i < listed.size := by omega
          simp [hi'] at hb ⊢; exact hb
        · have hp : e.on ∈ preds ops[i] := mem_preds.2 ⟨e, he, hbd, rfl⟩
          have := S.back i ops[i] (by simp [hi]) e.on hp
          exact ih e.on this (by omega)
      rw [hr] at hmem; cases hmem
    · rfl

/-- from a state, whatever comes up -/
def Tp (ro : Option Nat) (P : Program) (N : Nat → Prop) (nt : Nat) (ops : Array Oper) (Γ0 : Ctx) (w0 : World) (Q : Exit → Act → World → Prop) (A : List Nat) (f : F) (h : Hp) : Prop :=
  ∀ (fuel : Nat) (listed : Array Bool) (Γ : Ctx) (a : Act) (w : World), DRel P N nt ops Γ0 w0 A listed Γ f h a w → unl listed ≤ fuel → wpAnyIn (fen ro) 0 P .any ops Q fuel listed a w

theorem Tp.core {Q : Exit → Act → World → Prop} (S : RText P ops) (hd : ∀ o ∈ ops.toList, okD nt o)
    (hdone : ∀ listed Γ a w, DRel P N nt ops Γ0 w0 A listed Γ f h a w → (∀ i, i < ops.size → listed.getD i false = true) → Q .normal a w)
    (hstep : ∀ listed Γ a w i o, DRel P N nt ops Γ0 w0 A listed Γ f h a w → i ∉ A → i ∈ Region.ready .any ops listed → ops[i]? = some o →
      wpOpIn (fen ro) 0 P ops Q i (fun a' w' => ∀ fuel, unl (listed.setIfInBounds i true) ≤ fuel → wpAnyIn (fen ro) 0 P .any ops Q fuel (listed.setIfInBounds i true) a' w') a w) : Tp ro P N nt ops Γ0 w0 Q A f h := by
  intro fuel
  induction fuel with
  | zero =>
    intro listed Γ a w D hu
    have hall : ∀ i, i < ops.size → listed.getD i false = true := fun i hi => unl_zero (by omega) i (by rw [D.lsz]; exact hi)
    refine ⟨?_, hdone listed Γ a w D hall⟩
    cases hrd : Region.ready .any ops listed with
    | nil => rfl
    | cons j js =>
      exfalso
      have hj : j ∈ Region.ready .any ops listed := by rw [hrd]; simp
      obtain ⟨h1, h2⟩ := unlisted D.lsz (mem_ready.1 hj).1
      rw [hall j h1] at h2; cases h2
  | succ fuel ih =>
    intro listed Γ a w D hu
    refine ⟨fun hr => hdone listed Γ a w D (all_listed S D.lsz hr), fun i hir => ?_⟩
    obtain ⟨hun, o, ho, _⟩ := mem_ready.1 hir
    have hcount := unl_set hun
    by_cases hiA : i ∈ A
    · refine wpOpIn_mono (fun a' w' ⟨Γ', D'⟩ => ih _ Γ' a' w' D' (by omega)) (D.late S hd ho hir hiA)
    · exact wpOpIn_mono (fun a' w' h' => h' fuel (by omega)) (hstep listed Γ a w i o D hiA hir ho)
end
end Go.Ev

/- Regions whose order is open: whole. -/
namespace Go.Ev
open Go Go.RowKit

section
variable {ro : Option Nat} {P : Program} {N : Nat → Prop} {nt : Nat} {Γ Γ0 Δ : Ctx} {h h' : Hp} {w w0 w' : World} {v : AV} {f f' g : F} {a : Act} {o : Oper} {callR : Nat → AV → Hp → R} {r : R} {x : X} {ops : Array Oper} {A A' : List Nat} {listed : Array Bool}

theorem predsAt_of {i : Nat} (hi : ops[i]? = some o) : predsAt ops i = preds o := by unfold predsAt; rw [hi]
theorem mem_readyL {i : Nat} : i ∈ readyL ops A ↔ i < ops.size ∧ i ∉ A ∧ ∀ p ∈ predsAt ops i, p ∈ A := by
  unfold readyL
  rw [List.mem_filter, List.mem_range, Bool.and_eq_true, List.all_eq_true]
  constructor
  · rintro ⟨h1, h2, h3⟩
    exact ⟨h1, (fun h => by rw [memN_iff.2 h] at h2; cases h2), fun p hp => memN_iff.1 (h3 p hp)⟩
  · rintro ⟨h1, h2, h3⟩
    refine ⟨h1, ?_, fun p hp => memN_iff.2 (h3 p hp)⟩
    cases hh : memN i A
    · rfl
    · exact absurd (memN_iff.1 hh) h2
/-- what may come up may come up in the plan -/
theorem DRel.ready (D : DRel P N nt ops Γ0 w0 A listed Γ f h a w) {i : Nat} (hr : i ∈ Region.ready .any ops listed) (hA : i ∉ A) : i ∈ readyL ops A := by
  obtain ⟨h1, o, ho, hall⟩ := mem_ready.1 hr
  refine mem_readyL.2 ⟨(unlisted D.lsz h1).1, hA, fun p hp => ?_⟩
  rw [predsAt_of ho] at hp
  obtain ⟨e, he, hb, hon⟩ := mem_preds.1 hp
  exact D.sub p (by rw [← hon]; exact hall e he hb)
theorem ancs_of (D : DRel P N nt ops Γ0 w0 A listed Γ f h a w) {i : Nat} (B : List Nat) (hall : ∀ p ∈ predsAt ops i, listed.getD p false = true) : ∀ p ∈ ancs ops B i, listed.getD p false = true := by
  have : ∀ (l : List Nat) (S : List Nat), (∀ p ∈ S, listed.getD p false = true) → ∀ p ∈ l.foldl (fun S a => if memN a S then predsAt ops a ++ S else S) S, listed.getD p false = true := by
    intro l
    induction l with
    | nil => exact fun S hS => hS
    | cons b l ih =>
      intro S hS
      rw [List.foldl_cons]
      refine ih _ fun p hp => ?_
      split at hp
      · rename_i hb
        rcases List.mem_append.1 hp with hp | hp
        · have hlb := hS b (memN_iff.1 hb)
          unfold predsAt at hp
          cases hob : ops[b]? with
          | none => rw [hob] at hp; cases hp
          | some q => rw [hob] at hp; exact D.down b q hlb hob p hp
        · exact hS p hp
      · exact hS p hp
  exact this B _ hall
theorem ancs_listed (D : DRel P N nt ops Γ0 w0 A listed Γ f h a w) {i : Nat} (B : List Nat) (hr : i ∈ Region.ready .any ops listed) : ∀ p ∈ ancs ops B i, listed.getD p false = true := by
  obtain ⟨h1, o, ho, hall⟩ := mem_ready.1 hr
  refine ancs_of D B fun p hp => ?_
  rw [predsAt_of ho] at hp
  obtain ⟨e, he, hb, hon⟩ := mem_preds.1 hp
  rw [← hon]; exact hall e he hb
/-- one that was taken and is no early one is there already -/
theorem ancs_done (D : DRel P N nt ops Γ0 w0 A listed Γ f h a w) {i : Nat} (B : List Nat) (hi : ops[i]? = some o) (hiA : i ∈ A) (hne : (clsOf P o).early = false) : ∀ p ∈ ancs ops B i, listed.getD p false = true := by
  have hl : listed.getD i false = true := by
    cases hb : listed.getD i false
    · have hlt : i < listed.size := by rw [D.lsz]; exact (Array.getElem?_eq_some_iff.1 hi).1
      have hw : Wait ops A listed i o := ⟨hiA, by simp [hlt] at hb ⊢; exact hb, hi⟩
      have := (D.re i o hw).early
      rw [hne] at this; cases this
    · rfl
  refine ancs_of D B fun p hp => ?_
  rw [predsAt_of hi] at hp
  exact D.down i o hl hi p hp
theorem done_of (D : DRel P N nt ops Γ0 w0 A listed Γ f h a w) {i : Nat} (hi : ops[i]? = some o) (hiA : i ∈ A) (hne : (clsOf P o).early = false) : listed.getD i false = true := by
  cases hb : listed.getD i false
  · have hlt : i < listed.size := by rw [D.lsz]; exact (Array.getElem?_eq_some_iff.1 hi).1
    have hw : Wait ops A listed i o := ⟨hiA, by simp [hlt] at hb ⊢; exact hb, hi⟩
    have := (D.re i o hw).early
    rw [hne] at this; cases this
  · rfl
theorem sures_done (D : DRel P N nt ops Γ0 w0 A listed Γ f h a w) : ∀ p ∈ sures P ops A, listed.getD p false = true := by
  have : ∀ (l : List Nat) (S : List Nat), (∀ p ∈ l, p ∈ A) → (∀ p ∈ S, listed.getD p false = true) → ∀ p ∈ l.foldl (fun S a => if memN a S || !earlyAt P ops a then predsAt ops a ++ S else S) S, listed.getD p false = true := by
    intro l
    induction l with
    | nil => exact fun S _ hS => hS
    | cons b l ih =>
      intro S hl hS
      rw [List.foldl_cons]
      refine ih _ (fun p hp => hl p (List.mem_cons_of_mem _ hp)) fun p hp => ?_
      split at hp
      · rename_i hb
        rcases List.mem_append.1 hp with hp | hp
        · unfold predsAt at hp
          cases hob : ops[b]? with
          | none => rw [hob] at hp; cases hp
          | some q =>
            have hlb : listed.getD b false = true := by
              rcases Bool.or_eq_true_iff.1 hb with hb | hb
              · exact hS b (memN_iff.1 hb)
              · refine done_of D hob (hl b (List.mem_cons_self ..)) ?_
                unfold earlyAt at hb
                rw [hob] at hb
                simpa using hb
            rw [hob] at hp; exact D.down b q hlb hob p hp
        · exact hS p hp
      · exact hS p hp
  exact this A _ (fun p hp => hp) (fun p hp => by cases hp)
theorem mem_recheck {T : List Nat} {e : Nat} (hA : e ∈ A) (ho : ops[e]? = some o) (he : (clsOf P o).early = true) (hT : e ∉ T) : e ∈ recheck P ops A T := by
  unfold recheck
  rw [List.mem_filter]
  refine ⟨hA, ?_⟩
  have : earlyAt P ops e = true := by unfold earlyAt; rw [ho]; exact he
  rw [this, Bool.true_and]
  cases hh : memN e T
  · rfl
  · exact absurd (memN_iff.1 hh) hT

theorem isOne_eq {l : List Nat} {j : Nat} (h : isOne l j = true) : l = [j] := by
  unfold isOne at h
  split at h
  · rw [Nat.eq_of_beq_eq_true h]
  · cases h
/-! what the next step may be -/
theorem nextP_cases : ∀ nx, nextP P ops A = nx →
    (match nx with
    | .done => ∀ i, i < ops.size → i ∈ A
    | .pure o i => ops[i]? = some o ∧ clsOf P o = .pure ∧ i ∈ readyL ops A
    | .alloc o i re => ops[i]? = some o ∧ clsOf P o = .alloc ∧ i ∈ readyL ops A ∧ re = recheck P ops A (sures P ops A)
    | .eff o i re => ops[i]? = some o ∧ readyL ops A = [i] ∧ re = recheck P ops A (ancs ops A i)
    | .two o p i j re1 re2 re3 => ops[i]? = some o ∧ ops[j]? = some p ∧ readyL ops A = [i, j] ∧ isStAt P ops i = true ∧ isStAt P ops j = true ∧ readyL ops (i :: A) = [j] ∧ readyL ops (j :: A) = [i] ∧ re1 = recheck P ops A (ancs ops A i) ∧ re2 = recheck P ops A (ancs ops A i ++ ancs ops A j) ∧ re3 = recheck P ops A (ancs ops A j)
    | .bad => True) := by
  intro nx hnx
  unfold nextP at hnx
  split at hnx
  · rename_i i hf
    have hmem := List.mem_of_find?_eq_some hf
    unfold nextE at hnx
    split at hnx
    · rename_i o ho
      split at hnx
      · rename_i hcl; subst hnx; exact ⟨ho, hcl, hmem⟩
      · rename_i hcl; subst hnx; exact ⟨ho, hcl, hmem, rfl⟩
      · subst hnx; trivial
    · subst hnx; trivial
  · split at hnx
    · split at hnx
      · rename_i hall
        subst hnx
        intro i hi
        rw [List.all_eq_true] at hall
        exact memN_iff.1 (hall i (List.mem_range.2 hi))
      · subst hnx; trivial
    · rename_i i hrd
      split at hnx
      · rename_i o ho; subst hnx; exact ⟨ho, hrd, rfl⟩
      · subst hnx; trivial
    · rename_i i j hrd
      split at hnx
      · rename_i o p ho hp
        split at hnx
        · rename_i hst
          simp only [Bool.and_eq_true] at hst
          subst hnx; exact ⟨ho, hp, hrd, hst.1.1.1, hst.1.1.2, isOne_eq hst.1.2, isOne_eq hst.2, rfl, rfl, rfl⟩
        · subst hnx; trivial
      · subst hnx; trivial
    · subst hnx; trivial

/-- a pure operation is taken early -/
theorem DRel.early (D : DRel P N nt ops Γ0 w0 A listed Γ f h a w) (S : RText P ops) (hd : ∀ o ∈ ops.toList, okD nt o) {i : Nat} (hi : ops[i]? = some o) (hiA : i ∉ A) (hdown : ∀ e ∈ A, ∀ q, ops[e]? = some q → ∀ p ∈ preds q, p ∈ A)
    (hle : Γ0.Le Δ) (hlz : Γ.z.Le Δ) (hR : Rel N Δ h' w) (he : (clsOf P o).early = true) (hre0 : ReOK P ops (putD o.dst v f) h' o) (hnum0 : NumOnly P Γ0 Δ (putD o.dst v f) h' o)
    (hre : ∀ e q, Wait ops A listed e q → ReOK P ops (putD o.dst v f) h' q) (hnum : ∀ e q, Wait ops A listed e q → NumOnly P Γ0 Δ (putD o.dst v f) h' q)
    (hdist : clsOf P o = .alloc → ∀ e q d d' b, Wait ops A listed e q → clsOf P q = .alloc → q.dst = some d → o.dst = some d' → blkK (F.get d f) none some = some b → blkK v none some ≠ some b) :
    DRel P N nt ops Γ0 w0 (i :: A) listed Δ (putD o.dst v f) h' a w := by
  have hdo : okD nt o := hd o (by rw [Array.mem_toList_iff]; exact Array.mem_of_getElem? hi)
  have hoth := putD_other (v := v) (f := f) hdo D.small
  have hsplit : ∀ e q, Wait ops (i :: A) listed e q → (e = i ∧ q = o) ∨ (e ≠ i ∧ Wait ops A listed e q) := fun e q ⟨h1, h2, h3⟩ => by
    by_cases hei : e = i
    · subst hei; rw [hi] at h3; cases h3; exact .inl ⟨rfl, rfl⟩
    · exact .inr ⟨hei, (List.mem_cons.1 h1).resolve_left hei, h2, h3⟩
  have hq : ∀ e q, e ≠ i → Wait ops A listed e q → ∀ t, q.dst = some t → F.get t (putD o.dst v f) = F.get t f := fun e q hne hw t ht => hoth t (S.dst i e o q t hi hw.2.2 (Ne.symm hne) ht)
  have hun : listed.getD i true = false := by
    have hlt : i < listed.size := by rw [D.lsz]; exact (Array.getElem?_eq_some_iff.1 hi).1
    have : listed.getD i false = false := by
      cases hb : listed.getD i false
      · rfl
      · exact absurd (D.sub i hb) hiA
    simp [hlt] at this ⊢; exact this
  refine ⟨hle, D.bel, hR, fun t ht => ?_, ?_, D.size, D.small, D.lsz, fun j hj => List.mem_cons_of_mem _ (D.sub j hj), D.down, fun e q hw => ?_, fun e q hw => ?_, fun e e' q q' d d' b hw hw' hc hc' hdq hdq' hne hb1 hb2 => ?_⟩
  · have hot : o.dst ≠ some t := ht i o ⟨by simp, hun, hi⟩
    rw [hoth t hot]
    exact (D.get t fun e q hw => ht e q ⟨List.mem_cons_of_mem _ hw.1, hw.2.1, hw.2.2⟩).monoz hlz
  · rw [putD_ds]
    have hfr := (D.fr hd).monoz hlz
    have := hfr.ds
    rwa [mask_ds] at this
  · rcases hsplit e q hw with ⟨rfl, rfl⟩ | ⟨_, hw⟩
    · exact hre0
    · exact hre e q hw
  · rcases hsplit e q hw with ⟨rfl, rfl⟩ | ⟨_, hw⟩
    · exact hnum0
    · exact hnum e q hw
  · rcases hsplit e q hw with ⟨ei, qo⟩ | ⟨hne1, hwa⟩ <;> rcases hsplit e' q' hw' with ⟨ei', qo'⟩ | ⟨hne2, hwb⟩
    · exact hne (ei.trans ei'.symm)
    · subst qo
      rw [putD_same hdq] at hb1
      rw [hq e' q' hne2 hwb d' hdq'] at hb2
      exact hdist hc e' q' d' d b hwb hc' hdq' hdq hb2 hb1
    · subst qo'
      rw [putD_same hdq'] at hb2
      rw [hq e q hne1 hwa d hdq] at hb1
      exact hdist hc' e q d d' b hwa hc hdq hdq' hb1 hb2
    · rw [hq e q hne1 hwa d hdq] at hb1
      rw [hq e' q' hne2 hwb d' hdq'] at hb2
      exact D.dist e e' q q' d d' b hwa hwb hc hc' hdq hdq' hne hb1 hb2
end
end Go.Ev

/- Regions whose order is open: the theorem. -/
namespace Go.Ev
open Go Go.RowKit

section
variable {ro : Option Nat} {P : Program} {N : Nat → Prop} {nt : Nat} {Γ Γ0 Δ : Ctx} {h h' : Hp} {w w0 w' : World} {v : AV} {f f' g : F} {a : Act} {o : Oper} {callR : Nat → AV → Hp → R} {r : R} {x : X} {ops : Array Oper} {A A' : List Nat} {listed : Array Bool}

/-- a frame that differs where an operation does not look -/
theorem opd_frame (hl : ∀ t ∈ o.looksAt ops, F.get t f' = F.get t f) : ∀ y ∈ o.op.operands, opd y f' = opd y f := fun y hy => by
  cases y with
  | tmp t => exact hl t (List.mem_append_left _ (List.mem_filterMap.2 ⟨.tmp t, by simpa using hy, rfl⟩))
  | _ => rfl
theorem guard_frame (hl : ∀ t ∈ o.looksAt ops, F.get t f' = F.get t f) {y n : X} : guardX ops o.guard f' y n = guardX ops o.guard f y n := by
  refine guardX_congr fun j t d hg hs => hl d (List.mem_append_right _ ?_)
  rw [hg]
  unfold gslot at hs
  simp [hs]
theorem ReOK.frame (hl : ∀ t ∈ o.looksAt ops, F.get t f' = F.get t f) (hdd : ∀ d, o.dst = some d → F.get d f' = F.get d f) (hr : ReOK P ops f h o) : ReOK P ops f' h o := by
  rcases hr with ⟨hcl, ⟨hg, v, h1, he, hdv⟩ | ⟨hg, hdv⟩⟩ | ⟨hcl, ob, mk, b, d, hd, hgd, hal, hfd, hob⟩
  · refine .inl ⟨hcl, .inl ⟨fun y n => by rw [guard_frame hl]; exact hg y n, v, h1, ?_, fun d hd => by rw [hdd d hd]; exact hdv d hd⟩⟩
    rw [exPure_congr (opd_frame hl)]; exact he
  · exact .inl ⟨hcl, .inr ⟨fun y n => by rw [guard_frame hl]; exact hg y n, fun d hd => by rw [hdd d hd]; exact hdv d hd⟩⟩
  · refine .inr ⟨hcl, ob, mk, b, d, hd, hgd, ⟨fun h2 hn => ?_, hal.blk⟩, by rw [hdd d hd]; exact hfd, hob⟩
    rw [exO_congr (opd_frame hl)]; exact hal.run h2 hn

def Ctx.bump (Γ : Ctx) : Ctx := ⟨Γ.σ, Γ.sz, Γ.lim, Γ.nb + 1, Γ.wf⟩
theorem Ctx.z_bump (Γ : Ctx) : Γ.z.Le Γ.bump := ⟨fun _ _ h => h, Nat.le_refl _, fun _ _ => rfl, Nat.zero_le _, fun x hx => absurd hx (Nat.not_lt_zero x)⟩
theorem Ctx.Le.bump (h : Γ0.Le Γ) : Γ0.Le Γ.bump := ⟨h.σ, h.lim, h.sz, Nat.le_succ_of_le h.nb, h.none⟩
theorem Rel.bump (R : Rel N Γ h w) {ob : Ob} (hn : h.n < 83521) : Rel N Γ.bump ⟨setT h.n ob h.t, h.n + 1⟩ w := by
  have hne : ∀ b', b' < h.n → obAt b' ⟨setT h.n ob h.t, h.n + 1⟩ = obAt b' h := fun b' hlt => by
    rw [obAt_setT_ne _ _ _ hn (by omega) (by omega)]; rfl
  refine ⟨fun b c q hs => ?_, R.szs, fun b c q hs => Nat.lt_succ_of_lt (R.bnd b c q hs), fun b1 b2 c q1 q2 h1 h2 d1 d2 => ?_, R.own, R.lim, by show h.n + 1 ≤ _; omega, by have := R.gn; show gN ≤ h.n + 1; omega, R.glob, R.base, by show Γ.nb + 1 = h.n + 1; rw [R.nb], fun b c q t hs ht => R.one b c q t hs (by rw [hne b (R.bnd b c q hs)] at ht; exact ht)⟩
  · obtain ⟨obj, h1, h2⟩ := R.live b c q hs
    exact ⟨obj, h1, by rw [hne b (R.bnd b c q hs)]; exact h2.monoz Γ.z_bump⟩
  · rw [hne b1 (R.bnd _ _ _ h1)] at d1
    rw [hne b2 (R.bnd _ _ _ h2)] at d2
    exact R.sep b1 b2 c q1 q2 h1 h2 d1 d2
theorem Rel.ext (R : Rel N Γ h w) (hn : h'.n = h.n) (ho : ∀ b, b < h.n → obAt b h' = obAt b h) : Rel N Γ h' w := by
  refine ⟨fun b c q hs => ?_, R.szs, fun b c q hs => by rw [hn]; exact R.bnd b c q hs, fun b1 b2 c q1 q2 h1 h2 d1 d2 => ?_, R.own, R.lim, by rw [hn]; exact R.hn, by rw [hn]; exact R.gn, R.glob, R.base, by rw [hn]; exact R.nb, fun b c q t hs ht => R.one b c q t hs (by rw [ho b (R.bnd b c q hs)] at ht; exact ht)⟩
  · obtain ⟨obj, h1, h2⟩ := R.live b c q hs
    exact ⟨obj, h1, by rw [ho b (R.bnd b c q hs)]; exact h2⟩
  · rw [ho b1 (R.bnd _ _ _ h1)] at d1
    rw [ho b2 (R.bnd _ _ _ h2)] at d2
    exact R.sep b1 b2 c q1 q2 h1 h2 d1 d2

/-! stores, in two orders -/
theorem exStore_form {t : TypeId} {y z : Operand} (e : exStore P t y z f h = .ok v h') : ∃ b q ob, opd y f = .ptr b q ∧ h' = setOb b ob h ∧ ∀ h2, obAt b h2 = obAt b h → exStore P t y z f h2 = .ok v (setOb b ob h2) := by
  obtain ⟨b, q, hy, e1⟩ := AV.ptrK_inv (show (opd y f).ptrK Ev.R.no _ = _ from e) ok_ne_no
  have e0 := e1
  obtain ⟨hb, e2⟩ := wr_inv e1 ok_ne_no
  have key : ∃ ob, h' = setOb b ob h ∧ v = un ∧ ∀ h2, obAt b h2 = obAt b h → (Ag.rec (motive := fun _ => R) ((opd z f).aggK .no fun l => cond (Nat.beq (lenL l) (szOf P t)) (putLK l .no (fun ob => .ok un (setOb b ob h2)) (obAt b h2) q) .no) (cond (Nat.beq (szOf P t) 1) (cond (scB (opd z f)) (putK (obAt b h2) q (opd z f) .no fun ob => .ok un (setOb b ob h2)) .no) .no) .no (agT P t) : R) = .ok un (setOb b ob h2) := by
    cases hag : agT P t with
    | agg =>
      rw [hag] at e2
      obtain ⟨l, hz, e3⟩ := AV.aggK_inv (show (opd z f).aggK Ev.R.no _ = _ from e2) ok_ne_no
      obtain ⟨hl, e4⟩ := cond_inv e3 ok_ne_no
      rcases Picks.putLK l (obAt b h) q with hp | ⟨ob, hp⟩
      · exact (no_ok (e := (hp _).symm.trans e4)).elim
      · have e5 := (hp (fun ob => .ok un (setOb b ob h))).symm.trans e4
        obtain ⟨rfl, rfl⟩ := ok_inj e5
        refine ⟨ob, rfl, rfl, fun h2 ho => ?_⟩
        rw [hz]
        show cond (Nat.beq (lenL l) (szOf P t)) _ _ = _
        rw [hl, cond_true, ho]
        exact hp (fun ob => .ok un (setOb b ob h2))
    | one =>
      rw [hag] at e2
      obtain ⟨h1, e3⟩ := cond_inv (show cond (Nat.beq (szOf P t) 1) _ Ev.R.no = _ from e2) ok_ne_no
      obtain ⟨h2, e4⟩ := cond_inv e3 ok_ne_no
      rcases Picks.putK (ob := obAt b h) (p := q) (y := opd z f) (K := fun ob c => c ob) (fun _ => Picks.one) with hp | ⟨ob, hp⟩
      · exact (no_ok (e := (hp _).symm.trans e4)).elim
      · have e5 := (hp (fun ob => .ok un (setOb b ob h))).symm.trans e4
        obtain ⟨rfl, rfl⟩ := ok_inj e5
        refine ⟨ob, rfl, rfl, fun h3 ho => ?_⟩
        show cond (Nat.beq (szOf P t) 1) _ _ = _
        rw [h1, cond_true, h2, cond_true, ho]
        exact hp (fun ob => .ok un (setOb b ob h3))
    | bad => rw [hag] at e2; exact (no_ok (e := e2)).elim
  obtain ⟨ob, hh, rfl, hk⟩ := key
  refine ⟨b, q, ob, hy, hh, fun h2 ho => ?_⟩
  show (opd y f).ptrK Ev.R.no _ = _
  rw [hy]
  show wr b _ = _
  unfold wr
  rw [show Nat.ble gN b = true from Nat.ble_eq_true_of_le hb, cond_true]
  exact hk h2 ho
theorem obAt_setOb_ne {b c : Nat} (ob : Ob) (hb : b < 83521) (hc : c < 83521) (hne : b ≠ c) : obAt c (setOb b ob h) = obAt c h := by
  unfold setOb; rw [obAt_setT_ne _ _ _ hb hc hne]
theorem isStAt_inv {i : Nat} (hi : ops[i]? = some o) (hs : isStAt P ops i = true) : o.guard = none ∧ o.dst = none ∧ clsOf P o = .store ∧ ∃ t y z, o.op = .store t y z := by
  unfold isStAt at hs
  rw [hi] at hs
  have hs : (clsOf P o).isSt = true := hs
  have hcl : clsOf P o = .store := by cases hc : clsOf P o <;> rw [hc] at hs <;> first | rfl | cases hs
  have hcl0 := hcl
  unfold clsOf at hcl
  cases ho : o.op with
  | store t y z =>
    rw [ho] at hcl
    cases hg : o.guard with
    | some _ => rw [hg] at hcl; cases hcl
    | none =>
      cases hd : o.dst with
      | some _ => rw [hg, hd] at hcl; cases hcl
      | none => exact ⟨rfl, rfl, hcl0, t, y, z, rfl⟩
  | alloc el => rw [ho] at hcl; simp only at hcl; split at hcl <;> cases hcl
  | makeSlice t y z => rw [ho] at hcl; simp only at hcl; split at hcl <;> cases hcl
  | buildSlice t n ps => rw [ho] at hcl; simp only at hcl; split at hcl <;> cases hcl
  | convert s d y => rw [ho] at hcl; simp only at hcl; split at hcl <;> cases hcl
  | call c => rw [ho] at hcl; simp only at hcl; split at hcl <;> cases hcl
  | _ => rw [ho] at hcl; cases hcl
theorem onR_inv {r : Ev.R} {k : AV → Hp → X} (e : onR r k = x) (hx : x.good) : ∃ v h, r = .ok v h ∧ k v h = x := by
  cases r with
  | fail s => exact absurd e.symm (hx _)
  | pan _ _ => exact absurd e.symm (X.good_ne hx)
  | ok v h => exact ⟨v, h, rfl, e⟩
end
end Go.Ev

/- Regions whose order is open: the theorem, by induction. -/
namespace Go.Ev
open Go Go.RowKit

section
variable {ro : Option Nat} {P : Program} {N : Nat → Prop} {nt : Nat} {Γ Γ0 Δ : Ctx} {h h' : Hp} {w w0 w' : World} {v : AV} {f f' g : F} {a : Act} {o : Oper} {callR : Nat → AV → Hp → R} {r : R} {x : X} {ops : Array Oper} {A A' : List Nat} {listed : Array Bool}

theorem good_norm {f : F} {h : Hp} : (X.norm f h).good := fun s hs => by cases hs
/-- who was taken waits for those taken alone -/
def DownA (ops : Array Oper) (A : List Nat) : Prop := ∀ e ∈ A, ∀ q, ops[e]? = some q → ∀ p ∈ preds q, p ∈ A
theorem DownA.cons (hA : DownA ops A) {i : Nat} (hr : i ∈ readyL ops A) : DownA ops (i :: A) := fun e he q hq p hp => by
  rcases List.mem_cons.1 he with rfl | he
  · exact List.mem_cons_of_mem _ ((mem_readyL.1 hr).2.2 p (by rw [predsAt_of hq]; exact hp))
  · exact List.mem_cons_of_mem _ (hA e he q hq p hp)
/-- an early one does not look at its own target, nor does one taken already -/
theorem own_look (S : RText P ops) {i : Nat} (hi : ops[i]? = some o) (he : (clsOf P o).early = true) (hd : okD nt o) (hn : nt ≤ 272) : ∀ t ∈ o.looksAt ops, F.get t (putD o.dst v f) = F.get t f := fun t ht =>
  putD_other hd hn t fun hdt => (S.look i i o o t hi hi he hdt ht).1 rfl
theorem oth_look (S : RText P ops) {i e : Nat} {q : Oper} (hi : ops[i]? = some o) (he : (clsOf P o).early = true) (hd : okD nt o) (hn : nt ≤ 272) (hq : ops[e]? = some q) (heA : e ∈ A) (hiA : i ∉ A) (hA : DownA ops A) : ∀ t ∈ q.looksAt ops, F.get t (putD o.dst v f) = F.get t f := fun t ht =>
  putD_other hd hn t fun hdt => hiA (hA e heA q hq i (S.look e i q o t hq hi he hdt ht).2)

theorem draw_T (hx : x.good) (hc : CallOK P N callR) (S : RText P ops) (hd : ∀ o ∈ ops.toList, okD nt o) (hn : nt ≤ 272) : ∀ (n : Nat) (A : List Nat) (f : F) (h : Hp), DownA ops A → evDraw P callR ops n A f h = x →
    Tp ro P N nt ops Γ0 w0 (PostX N nt Γ0 w0 x) A f h
  | 0, A, f, h, hA, e => by exact absurd e.symm (X.good_ne hx)
  | n + 1, A, f, h, hA, e => by
    have ih := draw_T hx hc S hd hn n
    have e : evNx P callR ops A (evDraw P callR ops n) (nextP P ops A) f h = x := e
    have hok : ∀ i o, ops[i]? = some o → okD nt o := fun i o ho => hd o (by rw [Array.mem_toList_iff]; exact Array.mem_of_getElem? ho)
    cases hnx : nextP P ops A with
    | done =>
      have hall := nextP_cases _ hnx
      simp only at hall
      rw [hnx] at e
      have e : X.norm f h = x := e
      subst e
      refine Tp.core S hd (fun listed Γ a w D hl => ?_) (fun listed Γ a w i o D hiA hr ho => ?_)
      · refine ⟨Γ, D.le, D.rel, ⟨fun t => D.get t fun e q hw => ?_, D.ds, D.size, D.small⟩, D.bel⟩
        have h2 := unlisted D.lsz hw.2.1
        rw [hl e h2.1] at h2; exact absurd h2.2 (by decide)
      · exact absurd (hall i (mem_readyL.1 (D.ready hr hiA)).1) hiA
    | pure o i =>
      obtain ⟨hi, hcl, hrl⟩ := nextP_cases _ hnx
      have hiA := (mem_readyL.1 hrl).2.1
      rw [hnx] at e
      have hearly : (clsOf P o).early = true := by rw [hcl]; rfl
      have hown := fun v => own_look (v := v) (f := f) S hi hearly (hok i o hi) hn
      rcases guard_split e hx with ⟨hg, e1⟩ | ⟨hg, e1⟩
      · obtain ⟨v, hh, hex, e2⟩ := onR_inv e1 hx
        have hT := ih (i :: A) (putD o.dst v f) h (hA.cons hrl) e2
        intro fuel listed Γ a w D hu
        refine hT fuel listed Γ a w (D.early S hd hi hiA hA D.le (Ctx.Le.refl Γ).z D.rel hearly ?_ (fun hc2 => by rw [hcl] at hc2; cases hc2) (fun e q hw => ?_) (fun e q hw => ?_) (fun hc2 => by rw [hcl] at hc2; cases hc2)) hu
        · refine .inl ⟨hcl, .inl ⟨fun y n => by rw [guard_frame (hown v)]; exact hg y n, v, hh, ?_, fun d hd' => putD_same hd'⟩⟩
          rw [exPure_congr (opd_frame (hown v))]; exact hex
        · exact (D.re e q hw).frame (oth_look S hi hearly (hok i o hi) hn hw.2.2 hw.1 hiA hA) (fun d hd' => putD_other (hok i o hi) hn d (S.dst i e o q d hi hw.2.2 (fun hh => hiA (hh ▸ hw.1)) hd'))
        · exact (D.num e q hw).frame (fun d hd' => putD_other (hok i o hi) hn d (S.dst i e o q d hi hw.2.2 (fun hh => hiA (hh ▸ hw.1)) hd'))
      · have hT := ih (i :: A) (putD o.dst un f) h (hA.cons hrl) e1
        intro fuel listed Γ a w D hu
        refine hT fuel listed Γ a w (D.early S hd hi hiA hA D.le (Ctx.Le.refl Γ).z D.rel hearly ?_ (fun hc2 => by rw [hcl] at hc2; cases hc2) (fun e q hw => ?_) (fun e q hw => ?_) (fun hc2 => by rw [hcl] at hc2; cases hc2)) hu
        · exact .inl ⟨hcl, .inr ⟨fun y n => by rw [guard_frame (hown un)]; exact hg y n, fun d hd' => putD_same hd'⟩⟩
        · exact (D.re e q hw).frame (oth_look S hi hearly (hok i o hi) hn hw.2.2 hw.1 hiA hA) (fun d hd' => putD_other (hok i o hi) hn d (S.dst i e o q d hi hw.2.2 (fun hh => hiA (hh ▸ hw.1)) hd'))
        · exact (D.num e q hw).frame (fun d hd' => putD_other (hok i o hi) hn d (S.dst i e o q d hi hw.2.2 (fun hh => hiA (hh ▸ hw.1)) hd'))
    | alloc o i re =>
      obtain ⟨hi, hcl, hrl, hre⟩ := nextP_cases _ hnx
      have hiA := (mem_readyL.1 hrl).2.1
      rw [hnx] at e
      have hearly : (clsOf P o).early = true := by rw [hcl]; rfl
      obtain ⟨v, g, hex, e2⟩ := onR_inv (show onR (exO P o.op f h) _ = _ from e) hx
      have hown := own_look (v := v) (f := f) S hi hearly (hok i o hi) hn
      obtain ⟨hgd, ⟨d, hdd⟩, ob, mk, hal, hhn, hv, hg, hrun⟩ := cls_alloc hcl hex
      obtain ⟨e3, hres⟩ := reAll_inv re e2 hx
      have hT := ih (i :: A) (putD o.dst v f) g (hA.cons hrl) e3
      intro fuel listed Γ a w D hu
      have hbn : ∀ e q d' b, Wait ops A listed e q → clsOf P q = .alloc → q.dst = some d' → blkK (F.get d' f) none some = some b → b < h.n := fun e q d' b hw hcq hdq hb => (D.num e q hw hcq d' b hdq hb).2.1
      have hoth : ∀ e q, Wait ops A listed e q → ∀ d', q.dst = some d' → F.get d' (putD o.dst v f) = F.get d' f := fun e q hw d' hd' => putD_other (hok i o hi) hn d' (S.dst i e o q d' hi hw.2.2 (fun hh => hiA (hh ▸ hw.1)) hd')
      refine hT fuel listed Γ.bump a w (D.early S hd hi hiA hA D.le.bump Γ.z_bump (by rw [hg]; exact D.rel.bump hhn) hearly ?_ ?_ (fun e q hw => ?_) (fun e q hw => ?_) ?_) hu
      · refine .inr ⟨hcl, ob, mk, h.n, d, hdd, hgd, ⟨fun h2 hn2 => ?_, hal.blk⟩, by rw [putD_same hdd]; exact hv, by rw [hg, obAt_setT_same]⟩
        rw [exO_congr (opd_frame hown)]; exact hal.run h2 hn2
      · intro _ d' b hd' hb
        rw [putD_same hd', hv, hal.blk] at hb
        cases hb
        refine ⟨D.rel.none_at (Nat.le_refl _), by rw [hg]; exact Nat.lt_succ_self _, ?_, D.rel.gn⟩
        have := D.le.nb; rw [D.rel.nb] at this; exact this
      · exact hres e (by rw [hre]; exact mem_recheck hw.1 hw.2.2 (D.re e q hw).early (fun hm => by
          have h2 := (unlisted D.lsz hw.2.1).2
          rw [sures_done D e hm] at h2; cases h2)) q hw.2.2
      · intro hcq d' b hd' hb
        rw [hoth e q hw d' hd'] at hb
        obtain ⟨g1, g2, g3, g4⟩ := D.num e q hw hcq d' b hd' hb
        exact ⟨g1, by rw [hg]; exact Nat.lt_succ_of_lt g2, g3, g4⟩
      · intro _ e q d' d2 b hw hcq hdq _ hb hb2
        rw [hv, hal.blk] at hb2
        cases hb2
        exact absurd (hbn e q d' h.n hw hcq hdq hb) (Nat.lt_irrefl _)
    | eff o i re =>
      obtain ⟨hi, hrl, hre⟩ := nextP_cases _ hnx
      rw [hnx] at e
      have hir : i ∈ readyL ops A := by rw [hrl]; simp
      have hiA := (mem_readyL.1 hir).2.1
      have one : ∀ {listed Γ a w} {f2 : F} {h2 : Hp} {k : Nat} {q : Oper}, DRel P N nt ops Γ0 w0 A listed Γ f2 h2 a w → k ∉ A → k ∈ Region.ready .any ops listed → ops[k]? = some q → k = i ∧ q = o := fun D hk hr hq => by
        have := D.ready hr hk
        rw [hrl, List.mem_singleton] at this
        subst this
        rw [hi] at hq; cases hq; exact ⟨rfl, rfl⟩
      have notdone : ∀ {listed Γ a w}, DRel P N nt ops Γ0 w0 A listed Γ f h a w → (∀ i, i < ops.size → listed.getD i false = true) → False := fun D hl => hiA (D.sub i (hl i (mem_readyL.1 hir).1))
      have hrecheck : ∀ {f2 : F} {h2 : Hp} {listed Γ a w}, (∀ e ∈ re, ∀ o, ops[e]? = some o → ReOK P ops f2 h2 o) → DRel P N nt ops Γ0 w0 A listed Γ f h a w → i ∈ Region.ready .any ops listed → ∀ e q, e ≠ i → Wait ops A listed e q → ReOK P ops f2 h2 q := fun {f2 h2 listed Γ a w} hres D hr e q hne hw => by
        have hanc : e ∉ ancs ops A i := fun hanc => by
          have := ancs_listed D A hr e hanc
          have h2 := (unlisted D.lsz hw.2.1).2
          rw [this] at h2; cases h2
        exact hres e (by rw [hre]; exact mem_recheck hw.1 hw.2.2 (D.re e q hw).early hanc) q hw.2.2
      rcases guard_split e hx with ⟨hg, e1⟩ | ⟨hg, e1⟩
      · rcases onP_inv e1 hx with ⟨v, g, hex, e2⟩ | ⟨v, g, c, hop, hex, e2⟩
        rotate_left
        · subst e2
          refine Tp.core S hd (fun listed Γ a w D hl => (notdone D hl).elim) (fun listed Γ a w k q D hk hr hq => ?_)
          obtain ⟨rfl, rfl⟩ := one D hk hr hq
          refine D.effP (ro := ro) hc S hd hi hr hg hop hex fun e q hw => ?_
          have hanc : e ∉ ancs ops A k := fun hanc => by
            have := ancs_listed D A hr e hanc
            have h2 := (unlisted D.lsz hw.2.1).2
            rw [this] at h2; cases h2
          rw [hre]; exact mem_recheck hw.1 hw.2.2 (D.re e q hw).early hanc
        obtain ⟨e3, hres⟩ := reAll_inv re e2 hx
        have hT := ih (i :: A) (putD o.dst v f) g (hA.cons hir) e3
        refine Tp.core S hd (fun listed Γ a w D hl => (notdone D hl).elim) (fun listed Γ a w k q D hk hr hq => ?_)
        obtain ⟨rfl, rfl⟩ := one D hk hr hq
        exact wpOpIn_mono (fun a' w' ⟨Γ', D'⟩ fuel hu => hT fuel _ Γ' a' w' D' hu) (D.eff (ro := ro) hc S hd hi hr (by simp [or_comm]) hg hex (fun _ _ h => h) (hrecheck hres D hr))
      · obtain ⟨e3, hres⟩ := reAll_inv re e1 hx
        have hT := ih (i :: A) (putD o.dst un f) h (hA.cons hir) e3
        refine Tp.core S hd (fun listed Γ a w D hl => (notdone D hl).elim) (fun listed Γ a w k q D hk hr hq => ?_)
        obtain ⟨rfl, rfl⟩ := one D hk hr hq
        exact wpOpIn_mono (fun a' w' ⟨Γ', D'⟩ fuel hu => hT fuel _ Γ' a' w' D' hu) (D.effNo S hd hi hr hg (hrecheck hres D hr))
    | two o p i j ra rb rc =>
      obtain ⟨hi, hj, hrl, hsi, hsj, hri, hrj, hra, hrb, hrc⟩ := nextP_cases _ hnx
      rw [hnx] at e
      obtain ⟨hgi, hdi, hci, ti, yi, zi, hopi⟩ := isStAt_inv hi hsi
      obtain ⟨hgj, hdj, hcj, tj, yj, zj, hopj⟩ := isStAt_inv hj hsj
      have hir : i ∈ readyL ops A := by rw [hrl]; simp
      have hjr : j ∈ readyL ops A := by rw [hrl]; simp
      have hiA := (mem_readyL.1 hir).2.1
      have hjA := (mem_readyL.1 hjr).2.1
      have hij : i ≠ j := fun hh => by
        have : j ∈ readyL ops (i :: A) := by rw [hri]; simp
        exact (mem_readyL.1 this).2.1 (by simp [hh])
      have hgyi : GYes ops o f := fun y n => by rw [hgi]; rfl
      have hgyj : GYes ops p f := fun y n => by rw [hgj]; rfl
      have hpi : ∀ v, putD o.dst v f = f := fun v => by rw [hdi]; rfl
      have hpj : ∀ v, putD p.dst v f = f := fun v => by rw [hdj]; rfl
      have hEi : ∀ h2, exE P callR o.op f h2 = exO P o.op f h2 := fun h2 => by rw [hopi]; rfl
      have hEj : ∀ h2, exE P callR p.op f h2 = exO P p.op f h2 := fun h2 => by rw [hopj]; rfl
      -- the steps
      have e0 : apartX o.op p.op f (onR (exO P o.op f h) fun _ h1 => reAll P ops ra f h1 (onR (exO P p.op f h1) fun _ h2 => reAll P ops rb f h2
          (onR (exO P p.op f h) fun _ h3 => reAll P ops rc f h3 (evDraw P callR ops n (j :: i :: A) f h2)))) = x := e
      unfold apartX at e0
      rw [hopi, hopj] at e0
      obtain ⟨b, q1, hb, e1⟩ := AV.ptrK_inv (show (opd yi f).ptrK X.no _ = _ from e0) (X.good_ne hx)
      obtain ⟨c, q2, hcc, e2⟩ := AV.ptrK_inv (show (opd yj f).ptrK X.no _ = _ from e1) (X.good_ne hx)
      have e2 : cond (Nat.beq b c) X.no (cond (Bool.and (Nat.ble b 83520) (Nat.ble c 83520)) (onR (exO P (.store ti yi zi) f h) fun _ h1 => reAll P ops ra f h1 (onR (exO P (.store tj yj zj) f h1) fun _ h2 => reAll P ops rb f h2
          (onR (exO P (.store tj yj zj) f h) fun _ h3 => reAll P ops rc f h3 (evDraw P callR ops n (j :: i :: A) f h2)))) .no) = x := e2
      have hbc : b ≠ c := fun hh => by
        subst hh
        rw [Nat.beq_refl, cond_true] at e2
        exact absurd e2.symm (X.good_ne hx)
      rw [show Nat.beq b c = false from by cases hh : Nat.beq b c; rfl; exact absurd (Nat.eq_of_beq_eq_true hh) hbc, cond_false] at e2
      cases hlim : Bool.and (Nat.ble b 83520) (Nat.ble c 83520)
      · rw [hlim] at e2; exact absurd e2.symm (X.good_ne hx)
      rw [hlim, cond_true] at e2
      rw [Bool.and_eq_true] at hlim
      have hbl : b < 83521 := Nat.lt_succ_of_le (Nat.le_of_ble_eq_true hlim.1)
      have hcl : c < 83521 := Nat.lt_succ_of_le (Nat.le_of_ble_eq_true hlim.2)
      obtain ⟨v1, h2, ex1, e3⟩ := onR_inv e2 hx
      obtain ⟨e4, re1⟩ := reAll_inv ra e3 hx
      obtain ⟨v2, h3, ex2, e5⟩ := onR_inv e4 hx
      obtain ⟨e6, re2⟩ := reAll_inv rb e5 hx
      obtain ⟨v3, h4, ex3, e7⟩ := onR_inv e6 hx
      obtain ⟨e8, re3⟩ := reAll_inv rc e7 hx
      -- h2: i alone; h3: i then j; h4: j alone
      obtain ⟨b', q1', ob1, hb', hh2, hk1⟩ := exStore_form (show exStore P ti yi zi f h = .ok v1 h2 from ex1)
      rw [hb] at hb'; cases hb'
      obtain ⟨c', q2', ob2, hc', hh3, hk2⟩ := exStore_form (show exStore P tj yj zj f h2 = .ok v2 h3 from ex2)
      rw [hcc] at hc'; cases hc'
      obtain ⟨c', q2', ob3, hc', hh4, hk3⟩ := exStore_form (show exStore P tj yj zj f h = .ok v3 h4 from ex3)
      rw [hcc] at hc'; cases hc'
      have ho2 : obAt c h2 = obAt c h := by rw [hh2, obAt_setOb_ne ob1 hbl hcl hbc]
      have h3' : exStore P tj yj zj f h2 = .ok v3 (setOb c ob3 h2) := hk3 h2 ho2
      have hob : setOb c ob3 h2 = h3 := by
        have := h3'.symm.trans ex2
        exact (ok_inj this).2
      have ho4 : obAt b h4 = obAt b h := by rw [hh4, obAt_setOb_ne ob3 hcl hbl (Ne.symm hbc)]
      have ex4 : exStore P ti yi zi f h4 = .ok v1 (setOb b ob1 h4) := hk1 h4 ho4
      have hext : ∀ Δ w', Rel N Δ (setOb b ob1 h4) w' → Rel N Δ h3 w' := fun Δ w' hR => by
        refine hR.ext (by rw [← hob, hh2, hh4]; rfl) fun d hdn => ?_
        have hdl : d < 83521 := Nat.lt_of_lt_of_le hdn hR.hn
        rw [← hob]
        by_cases hdc : c = d
        · subst hdc
          rw [obAt_setOb, obAt_setOb_ne ob1 hbl hdl hbc, hh4, obAt_setOb]
        · rw [obAt_setOb_ne ob3 hcl hdl hdc]
          by_cases hdb : b = d
          · subst hdb; rw [hh2, obAt_setOb, obAt_setOb]
          · rw [hh2, obAt_setOb_ne ob1 hbl hdl hdb, obAt_setOb_ne ob1 hbl hdl hdb, hh4, obAt_setOb_ne ob3 hcl hdl hdc]
      have hAi := hA.cons hir
      have hAij : DownA ops (j :: i :: A) := hAi.cons (by rw [hri]; simp)
      have hT := ih (j :: i :: A) f h3 hAij e8
      have hst : ∀ {A2 : List Nat} {listed Γ a w} {h5 : Hp} {k : Nat} {q : Oper}, DRel P N nt ops Γ0 w0 A2 listed Γ f h5 a w → Wait ops A2 listed k q → clsOf P q ≠ .store := fun D hw hcs => by
        have := (D.re _ _ hw).early
        rw [hcs] at this; cases this
      have hei : (clsOf P o).early = false := by rw [hci]; rfl
      have hej : (clsOf P p).early = false := by rw [hcj]; rfl
      have out : ∀ {A2 : List Nat} {listed : Array Bool} {e : Nat} {q : Oper} {Γ a w} {h5 : Hp}, DRel P N nt ops Γ0 w0 A2 listed Γ f h5 a w → Wait ops A2 listed e q → listed.getD e false = true → False := fun D hw hl => by
        have h2 := (unlisted D.lsz hw.2.1).2
        rw [hl] at h2; cases h2
      -- after i
      have hTi : Tp ro P N nt ops Γ0 w0 (PostX N nt Γ0 w0 x) (i :: A) f h2 := by
        refine Tp.core S hd (fun listed Γ a w D hl => ?_) (fun listed Γ a w k q D hk hr hq => ?_)
        · have : j ∈ i :: A := D.sub j (hl j (mem_readyL.1 hjr).1)
          exact absurd ((List.mem_cons.1 this).resolve_left (Ne.symm hij)) hjA
        · have := D.ready hr hk
          rw [hri, List.mem_singleton] at this
          subst this
          rw [hj] at hq; cases hq
          have := D.eff (ro := ro) (Q := PostX N nt Γ0 w0 x) (A' := k :: i :: A) (h' := h3) (h2 := h3) (v := v2) hc S hd hj hr (by simp [or_comm]) hgyj (by rw [hEj]; rw [hopj]; exact ex2) (fun _ _ h => h) (fun e q hne hw => by
            rw [hpj]
            rcases List.mem_cons.1 hw.1 with hei | heA
            · subst hei
              have := hw.2.2; rw [hi] at this; cases this
              exact absurd hci (hst D hw)
            · exact re2 e (by rw [hrb]; exact mem_recheck heA hw.2.2 (D.re e q hw).early (fun hm => (List.mem_append.1 hm).elim (fun hm => out D hw (ancs_done D A hi (by simp) hei e hm)) (fun hm => out D hw (ancs_listed D A hr e hm)))) q hw.2.2)
          rw [hpj] at this
          exact wpOpIn_mono (fun a' w' ⟨Γ', D'⟩ fuel hu => hT fuel _ Γ' a' w' D' hu) this
      have hTj : Tp ro P N nt ops Γ0 w0 (PostX N nt Γ0 w0 x) (j :: A) f h4 := by
        refine Tp.core S hd (fun listed Γ a w D hl => ?_) (fun listed Γ a w k q D hk hr hq => ?_)
        · have : i ∈ j :: A := D.sub i (hl i (mem_readyL.1 hir).1)
          exact absurd ((List.mem_cons.1 this).resolve_left hij) hiA
        · have := D.ready hr hk
          rw [hrj, List.mem_singleton] at this
          subst this
          rw [hi] at hq; cases hq
          have := D.eff (ro := ro) (Q := PostX N nt Γ0 w0 x) (A' := j :: k :: A) (h' := setOb b ob1 h4) (h2 := h3) (v := v1) hc S hd hi hr (fun e => by simp only [List.mem_cons]; exact ⟨fun h => h.elim (fun h => .inl (.inl h)) (fun h => h.elim .inr (fun h => .inl (.inr h))), fun h => h.elim (fun h => h.elim .inl (fun h => .inr (.inr h))) (fun h => .inr (.inl h))⟩) hgyi (by rw [hEi]; rw [hopi]; exact ex4) hext (fun e q hne hw => by
            rw [hpi]
            rcases List.mem_cons.1 hw.1 with hei | heA
            · subst hei
              have := hw.2.2; rw [hj] at this; cases this
              exact absurd hcj (hst D hw)
            · exact re2 e (by rw [hrb]; exact mem_recheck heA hw.2.2 (D.re e q hw).early (fun hm => (List.mem_append.1 hm).elim (fun hm => out D hw (ancs_listed D A hr e hm)) (fun hm => out D hw (ancs_done D A hj (by simp) hej e hm)))) q hw.2.2)
          rw [hpi] at this
          exact wpOpIn_mono (fun a' w' ⟨Γ', D'⟩ fuel hu => hT fuel _ Γ' a' w' D' hu) this
      refine Tp.core S hd (fun listed Γ a w D hl => absurd (D.sub i (hl i (mem_readyL.1 hir).1)) hiA) (fun listed Γ a w k q D hk hr hq => ?_)
      have hmem := D.ready hr hk
      rw [hrl] at hmem
      rcases List.mem_cons.1 hmem with hki | hkj
      · subst hki
        rw [hi] at hq; cases hq
        have := D.eff (ro := ro) (Q := PostX N nt Γ0 w0 x) (A' := k :: A) (h' := h2) (h2 := h2) (v := v1) hc S hd hi hr (by simp [or_comm]) hgyi (by rw [hEi]; rw [hopi]; exact ex1) (fun _ _ h => h) (fun e q hne hw => by
          rw [hpi]; exact re1 e (by rw [hra]; exact mem_recheck hw.1 hw.2.2 (D.re e q hw).early (fun hm => out D hw (ancs_listed D A hr e hm))) q hw.2.2)
        rw [hpi] at this
        exact wpOpIn_mono (fun a' w' ⟨Γ', D'⟩ fuel hu => hTi fuel _ Γ' a' w' D' hu) this
      · rw [List.mem_singleton] at hkj
        subst hkj
        rw [hj] at hq; cases hq
        have := D.eff (ro := ro) (Q := PostX N nt Γ0 w0 x) (A' := k :: A) (h' := h4) (h2 := h4) (v := v3) hc S hd hj hr (by simp [or_comm]) hgyj (by rw [hEj]; rw [hopj]; exact ex3) (fun _ _ h => h) (fun e q hne hw => by
          rw [hpj]; exact re3 e (by rw [hrc]; exact mem_recheck hw.1 hw.2.2 (D.re e q hw).early (fun hm => out D hw (ancs_listed D A hr e hm))) q hw.2.2)
        rw [hpj] at this
        exact wpOpIn_mono (fun a' w' ⟨Γ', D'⟩ fuel hu => hTj fuel _ Γ' a' w' D' hu) this
    | bad => rw [hnx] at e; exact absurd e.symm (X.good_ne hx)
end
end Go.Ev

/- Bits. -/
namespace Go.Ev
open Go Go.RowKit

theorem bitB_eq (m i : Nat) : bitB m i = m.testBit i := by
  unfold bitB
  show Nat.beq ((m >>> i) &&& 1) 1 = _
  rw [Nat.testBit_eq_decide_div_mod_eq, Nat.and_one_is_mod, Nat.shiftRight_eq_div_pow]
  cases hh : Nat.beq (m / 2 ^ i % 2) 1
  · symm; rw [decide_eq_false_iff_not]; intro h; rw [h] at hh; cases hh
  · symm; rw [decide_eq_true_eq]; exact Nat.eq_of_beq_eq_true hh
theorem bit_lor {a b i : Nat} : bitB (Nat.lor a b) i = (bitB a i || bitB b i) := by
  rw [bitB_eq, bitB_eq, bitB_eq]; exact Nat.testBit_or a b i
theorem bit_one {k i : Nat} : bitB (Nat.shiftLeft 1 k) i = Nat.beq k i := by
  rw [bitB_eq]
  show ((1 : Nat) <<< k).testBit i = _
  rw [Nat.testBit_shiftLeft]
  by_cases h : k = i
  · subst h; simp [Nat.beq_refl]
  · have : Nat.beq k i = false := by cases hh : Nat.beq k i; rfl; exact absurd (Nat.eq_of_beq_eq_true hh) h
    rw [this]
    by_cases hk : i ≥ k
    · have h1 : i - k ≠ 0 := by omega
      obtain ⟨j, hj⟩ : ∃ j, i - k = j + 1 := ⟨i - k - 1, by omega⟩
      simp [hk, hj, Nat.testBit_succ]
    · simp [hk]
theorem maskL_bit : ∀ (l : List Nat) (i : Nat), bitB (maskL l) i = memN i l
  | [], i => by show bitB 0 i = false; rw [bitB_eq]; simp
  | x :: l, i => by
    show bitB (Nat.lor (Nat.shiftLeft 1 x) (maskL l)) i = (Nat.beq i x || memN i l)
    rw [bit_lor, bit_one, maskL_bit l i]
    congr 1
    rw [Bool.eq_iff_iff]
    constructor <;> (intro h; rw [Nat.eq_of_beq_eq_true h]; exact Nat.beq_refl _)
theorem sub_mask {l A : List Nat} : Nat.beq (Nat.land (maskL l) (maskL A)) (maskL l) = l.all fun p => memN p A := by
  rw [Bool.eq_iff_iff, List.all_eq_true]
  constructor
  · intro h p hp
    have h := Nat.eq_of_beq_eq_true h
    have hb : bitB (maskL l) p = true := by rw [maskL_bit]; exact memN_iff.2 hp
    rw [← h, bitB_eq] at hb
    have : (maskL l &&& maskL A).testBit p = true := hb
    rw [Nat.testBit_and, Bool.and_eq_true] at this
    rw [← maskL_bit, bitB_eq]; exact this.2
  · intro h
    have : Nat.land (maskL l) (maskL A) = maskL l := by
      apply Nat.eq_of_testBit_eq
      intro i
      show (maskL l &&& maskL A).testBit i = _
      rw [Nat.testBit_and, ← bitB_eq, ← bitB_eq, maskL_bit, maskL_bit]
      cases hi : memN i l
      · rfl
      · rw [h i (memN_iff.1 hi)]; rfl
    rw [this]; exact Nat.beq_refl _
section
variable {P : Program} {ops : Array Oper} {A : List Nat} {callR : Nat → AV → Hp → R}
theorem readyM_eq : readyM ops (maskL A) = readyL ops A := by
  unfold readyM readyL
  congr 1
  funext i
  rw [maskL_bit]
  unfold pmAt
  rw [sub_mask]
theorem ancM_bit : ∀ (l : List Nat) (S : List Nat) (M : Nat), (∀ i, bitB M i = memN i S) → ∀ i, bitB (l.foldl (fun S a => cond (bitB S a) (Nat.lor (pmAt ops a) S) S) M) i = memN i (l.foldl (fun S a => if memN a S then predsAt ops a ++ S else S) S)
  | [], S, M, h, i => h i
  | a :: l, S, M, h, i => by
    rw [List.foldl_cons, List.foldl_cons]
    refine ancM_bit l _ _ (fun j => ?_) i
    rw [h a]
    cases memN a S
    · exact h j
    · show bitB (Nat.lor (pmAt ops a) M) j = memN j (predsAt ops a ++ S)
      rw [bit_lor, h j]
      unfold pmAt
      rw [maskL_bit]
      unfold memN
      rw [List.any_append]
theorem recheckM_eq {M : Nat} {S : List Nat} (h : ∀ i, bitB M i = memN i S) : recheckM P ops A M = recheck P ops A S := by
  unfold recheckM recheck
  congr 1
  funext e
  rw [h e]
theorem sureM_bit : ∀ (l : List Nat) (S : List Nat) (M : Nat), (∀ i, bitB M i = memN i S) → ∀ i, bitB (l.foldl (fun S a => cond (Bool.or (bitB S a) (Bool.not (earlyAt P ops a))) (Nat.lor (pmAt ops a) S) S) M) i = memN i (l.foldl (fun S a => if memN a S || !earlyAt P ops a then predsAt ops a ++ S else S) S)
  | [], S, M, h, i => h i
  | a :: l, S, M, h, i => by
    rw [List.foldl_cons, List.foldl_cons]
    refine sureM_bit l _ _ (fun j => ?_) i
    rw [h a]
    show bitB (cond (memN a S || !earlyAt P ops a) (Nat.lor (pmAt ops a) M) M) j = memN j (if (memN a S || !earlyAt P ops a) = true then predsAt ops a ++ S else S)
    cases memN a S || !earlyAt P ops a
    · exact h j
    · show bitB (Nat.lor (pmAt ops a) M) j = memN j (predsAt ops a ++ S)
      rw [bit_lor, h j]
      unfold pmAt
      rw [maskL_bit]
      unfold memN
      rw [List.any_append]
theorem nextM_eq : nextM' P ops A (maskL A) = nextP P ops A := by
  unfold nextM' nextP nextEM nextE
  have h0 : recheckM P ops A (sureM P ops A) = recheck P ops A (sures P ops A) := recheckM_eq fun j => by
    unfold sureM sures
    exact sureM_bit A _ _ (fun k => maskL_bit [] k) j
  have h1 : ∀ i, readyM ops (Nat.lor (Nat.shiftLeft 1 i) (maskL A)) = readyL ops (i :: A) := fun i => readyM_eq (A := i :: A)
  have h2 : ∀ i, recheckM P ops A (ancM ops A i) = recheck P ops A (ancs ops A i) := fun i => recheckM_eq fun j => by
    unfold ancM ancs
    exact ancM_bit A _ _ (fun k => by unfold pmAt; exact maskL_bit _ k) j
  have h4 : ∀ i j, recheckM P ops A (Nat.lor (ancM ops A i) (ancM ops A j)) = recheck P ops A (ancs ops A i ++ ancs ops A j) := fun i j => recheckM_eq fun k => by
    have hb : ∀ i, bitB (ancM ops A i) k = memN k (ancs ops A i) := fun i => by
      unfold ancM ancs
      exact ancM_bit A _ _ (fun k => by unfold pmAt; exact maskL_bit _ k) k
    rw [bit_lor, hb i, hb j]
    unfold memN
    rw [List.any_append]
  have h3 : (fun i => bitB (maskL A) i) = fun i => memN i A := by funext i; exact maskL_bit A i
  simp only [readyM_eq, h0, h1, h2, h3, h4]
theorem evDrawM_eq : ∀ n A, evDrawM P callR ops n A = evDraw P callR ops n A
  | 0, A => rfl
  | n + 1, A => by
    show evNx P callR ops A (evDrawM P callR ops n) (nextM' P ops A (maskL A)) = evNx P callR ops A (evDraw P callR ops n) (nextP P ops A)
    rw [nextM_eq, show evDrawM P callR ops n = evDraw P callR ops n from funext fun A => evDrawM_eq n A]

/-! the text -/
theorem opsM_bit {t : Tmp} : ∀ l : List Operand, .tmp t ∈ l → bitB (opsM l) t = true
  | x :: l, h => by
    show bitB (Nat.lor (tmpM x) (opsM l)) t = true
    rw [bit_lor]
    rcases List.mem_cons.1 h with rfl | h
    · show (bitB (Nat.shiftLeft 1 t) t || _) = true
      rw [bit_one, Nat.beq_refl]; rfl
    · rw [opsM_bit l h]; simp
theorem lookM_bit {o : Oper} {t : Tmp} (h : t ∈ o.looksAt ops) : bitB (lookM ops o) t = true := by
  unfold lookM
  rw [bit_lor, Bool.or_eq_true]
  rcases List.mem_append.1 h with h | h
  · obtain ⟨x, hx, hxt⟩ := List.mem_filterMap.1 h
    cases x with
    | tmp t' => cases hxt; exact .inl (opsM_bit _ hx)
    | _ => cases hxt
  · refine .inr ?_
    cases hg : o.guard with
    | none => rw [hg] at h; cases h
    | some p =>
      rw [hg] at h
      show bitB (optM (gslot ops p.1)) t = true
      obtain ⟨j, want⟩ := p
      have h : t ∈ ((ops[j]?).bind (·.dst)).toList := h
      unfold gslot
      cases hs : (ops[j]?).bind (·.dst) with
      | none => rw [hs] at h; cases h
      | some d =>
        rw [hs] at h
        simp at h
        subst h
        show bitB (Nat.shiftLeft 1 t) t = true
        rw [bit_one, Nat.beq_refl]
theorem distM_spec : ∀ (l : List Oper) (D : Nat), distM l D = true → (∀ q ∈ l, ∀ d, q.dst = some d → bitB D d = false) ∧ ∀ (i k : Nat) (o q : Oper) (d : Tmp), l[i]? = some o → l[k]? = some q → i ≠ k → q.dst = some d → o.dst ≠ some d
  | [], D, _ => ⟨(fun q hq => by cases hq), (fun i k o q d h1 => absurd h1 (by simp))⟩
  | x :: l, D, e => by
    have e : Option.rec (motive := fun _ => Bool) (distM l D) (fun d => cond (bitB D d) false (distM l (Nat.lor (Nat.shiftLeft 1 d) D))) x.dst = true := e
    cases hx : x.dst with
    | none =>
      rw [hx] at e
      obtain ⟨h1, h2⟩ := distM_spec l D e
      refine ⟨fun q hq d hd => ?_, fun i k o q d ho hq hne hd hod => ?_⟩
      · rcases List.mem_cons.1 hq with rfl | hq
        · rw [hx] at hd; cases hd
        · exact h1 q hq d hd
      · cases i with
        | zero => simp at ho; subst ho; rw [hx] at hod; cases hod
        | succ i =>
          cases k with
          | zero => simp at hq; subst hq; rw [hx] at hd; cases hd
          | succ k => exact h2 i k o q d (by simpa using ho) (by simpa using hq) (by omega) hd hod
    | some dx =>
      rw [hx] at e
      have e : cond (bitB D dx) false (distM l (Nat.lor (Nat.shiftLeft 1 dx) D)) = true := e
      cases hb : bitB D dx
      · rw [hb] at e
        obtain ⟨h1, h2⟩ := distM_spec l _ e
        have hD : ∀ q ∈ l, ∀ d, q.dst = some d → d ≠ dx ∧ bitB D d = false := fun q hq d hd => by
          have := h1 q hq d hd
          rw [bit_lor, Bool.or_eq_false_iff, bit_one] at this
          exact ⟨fun hh => by rw [hh, Nat.beq_refl] at this; exact absurd this.1 (by decide), this.2⟩
        refine ⟨fun q hq d hd => ?_, fun i k o q d ho hq hne hd hod => ?_⟩
        · rcases List.mem_cons.1 hq with rfl | hq
          · rw [hx] at hd; cases hd; exact hb
          · exact (hD q hq d hd).2
        · cases i with
          | zero =>
            simp at ho; subst ho
            rw [hx] at hod; cases hod
            cases k with
            | zero => exact hne rfl
            | succ k => exact (hD q (List.mem_of_getElem? (i := k) (by simpa using hq)) _ hd).1 rfl
          | succ i =>
            cases k with
            | zero =>
              simp at hq; subst hq
              rw [hx] at hd; cases hd
              exact (hD o (List.mem_of_getElem? (i := i) (by simpa using ho)) _ hod).1 rfl
            | succ k => exact h2 i k o q d (by simpa using ho) (by simpa using hq) (by omega) hd hod
      · rw [hb] at e; cases e
theorem readersB_spec {k d : Nat} : ∀ (l : List Oper) (s : Nat), readersB ops k d l s = true → ∀ i o, l[i]? = some o → bitB (lookM ops o) d = true → s + i ≠ k ∧ k ∈ preds o
  | [], s, _, i, o, h, _ => by simp at h
  | x :: l, s, e, i, o, ho, hl => by
    have e : cond (bitB (lookM ops x) d) (cond (Bool.and (Bool.not (Nat.beq s k)) (bitB (maskL (preds x)) k)) (readersB ops k d l (Nat.succ s)) false) (readersB ops k d l (Nat.succ s)) = true := e
    have hrest : readersB ops k d l (Nat.succ s) = true ∧ (bitB (lookM ops x) d = true → s ≠ k ∧ k ∈ preds x) := by
      cases hx : bitB (lookM ops x) d
      · rw [hx] at e; exact ⟨e, fun h => by cases h⟩
      · rw [hx, cond_true] at e
        obtain ⟨h1, h2⟩ := cond_t e
        rw [Bool.and_eq_true] at h1
        refine ⟨h2, fun _ => ⟨fun hh => ?_, ?_⟩⟩
        · rw [hh, Nat.beq_refl] at h1; exact absurd h1.1 (by decide)
        · have := h1.2; rw [maskL_bit] at this; exact memN_iff.1 this
    cases i with
    | zero => simp at ho; subst ho; exact hrest.2 hl
    | succ i =>
      have := readersB_spec l (Nat.succ s) hrest.1 i o (by simpa using ho) hl
      exact ⟨by have := this.1; show s + (i + 1) ≠ k; simp only [Nat.succ_eq_add_one] at this; omega, this.2⟩
theorem textB_spec : ∀ (l : List Oper) (s : Nat), textB P ops l s = true → ∀ i q, l[i]? = some q → (∀ p ∈ preds q, p < s + i) ∧ ((clsOf P q).early = true → ∀ d, q.dst = some d → readersB ops (s + i) d ops.toList 0 = true)
  | [], s, _, i, q, h => by simp at h
  | x :: l, s, e, i, q, hq => by
    have e : cond (Nat.ble (Nat.succ (maskL (preds x))) (Nat.shiftLeft 1 s)) (cond (clsOf P x).early (Option.rec (motive := fun _ => Bool) (textB P ops l (Nat.succ s)) (fun d => cond (readersB ops s d ops.toList 0) (textB P ops l (Nat.succ s)) false) x.dst) (textB P ops l (Nat.succ s))) false = true := e
    obtain ⟨h1, e1⟩ := cond_t e
    have hback : ∀ p ∈ preds x, p < s := fun p hp => by
      have hlt : maskL (preds x) < 2 ^ s := by
        have := Nat.le_of_ble_eq_true h1
        rw [show Nat.shiftLeft 1 s = 2 ^ s from by show 1 <<< s = _; rw [Nat.shiftLeft_eq, Nat.one_mul]] at this
        exact this
      have hb : bitB (maskL (preds x)) p = true := by rw [maskL_bit]; exact memN_iff.2 hp
      rw [bitB_eq] at hb
      have hge := Nat.ge_two_pow_of_testBit hb
      exact (Nat.pow_lt_pow_iff_right (a := 2) (by omega)).1 (Nat.lt_of_le_of_lt hge hlt)
    have hrest : textB P ops l (Nat.succ s) = true ∧ ((clsOf P x).early = true → ∀ d, x.dst = some d → readersB ops s d ops.toList 0 = true) := by
      cases he : (clsOf P x).early
      · rw [he] at e1; exact ⟨e1, fun h => by cases h⟩
      · rw [he, cond_true] at e1
        cases hd : x.dst with
        | none => rw [hd] at e1; exact ⟨e1, fun _ d h => by cases h⟩
        | some d =>
          rw [hd] at e1
          obtain ⟨h2, h3⟩ := cond_t (show cond (readersB ops s d ops.toList 0) (textB P ops l (Nat.succ s)) false = true from e1)
          exact ⟨h3, fun _ d' h => by cases h; exact h2⟩
    cases i with
    | zero => simp at hq; subst hq; exact ⟨by simpa using hback, by simpa using hrest.2⟩
    | succ i =>
      have := textB_spec l (Nat.succ s) hrest.1 i q (by simpa using hq)
      rw [show s + (i + 1) = Nat.succ s + i by simp only [Nat.succ_eq_add_one]; omega]; exact this
theorem okText_stat (h : okText P ops = true) : RText P ops := by
  obtain ⟨h0, h1⟩ := cond_t (show cond (Region.noSelect ops) _ false = true from h)
  obtain ⟨h2, h3⟩ := cond_t h1
  have hl : ∀ i o, ops[i]? = some o → ops.toList[i]? = some o := fun i o ho => by rw [Array.getElem?_toList]; exact ho
  refine ⟨h0, fun i o ho p hp => ?_, fun i k o q d ho hq hne hd => (distM_spec ops.toList 0 h2).2 i k o q d (hl i o ho) (hl k q hq) hne hd, fun i k o q d ho hq he hd hlk => ?_⟩
  · have := (textB_spec ops.toList 0 h3 i o (hl i o ho)).1 p hp
    rwa [Nat.zero_add] at this
  · have h4 := (textB_spec ops.toList 0 h3 k q (hl k q hq)).2 he d hd
    rw [Nat.zero_add] at h4
    have := readersB_spec ops.toList 0 h4 i o (hl i o ho) (lookM_bit hlk)
    rwa [Nat.zero_add] at this
end
end Go.Ev

/- Code. -/
namespace Go.Ev
open Go Go.RowKit

section
variable {ro : Option Nat} {P : Program} {N : Nat → Prop} {nt : Nat} {Γ Γ0 Δ : Ctx} {h h' : Hp} {w w0 w' : World} {v : AV} {f f' g : F} {a : Act} {o : Oper} {callR : Nat → AV → Hp → R} {r : R} {x : X} {ops : Array Oper} {A A' : List Nat} {listed : Array Bool}

theorem run_callFunc {g : Nat} {fn : Func} {args : Array Value} {c : Code} (hfn : P.funcs[g]? = some fn) (hng : isNG fn = false) (hb : fn.body = some c) : (callFunc g args).run P w = .ok (.enter g args) w := by
  have hprog : (program).run P w = .ok P w := rfl
  have hng' : (fn.name == "runtime.NumGoroutine") = false := hng
  simp only [callFunc, Sem.run_bind, hprog, Result.andThen_ok, hfn, hng', hb, Option.isNone_some, Bool.false_eq_true, if_false, Sem.run_pure]

theorem draw_wp (hm : P.follows .mixedOrders = true) (hc : CallOK P N callR) {id : Nat} (hx : x.good) (hd : ∀ o ∈ ops.toList, okD nt o) (hR : Rel N Γ h w) (hf : FR nt Γ f a) (e : evReg P callR ops true f h = x) :
    (Code.region id ops true).wpIn (fen ro) 0 P (PostX N nt Γ w x) a w := by
  have e : cond (okText P ops) (regX (evDrawM P callR ops (Nat.succ ops.size) [] f h)) .no = x := e
  rw [evDrawM_eq] at e
  cases hok : okText P ops
  · rw [hok] at e; exact absurd e.symm (X.good_ne hx)
  · rw [hok, cond_true] at e
    have S := okText_stat hok
    have key : ∀ y, evDraw P callR ops (Nat.succ ops.size) [] f h = y → y.good → (Code.region id ops true).wpIn (fen ro) 0 P (PostX N nt Γ w y) a w := fun y hev hy => by
      have hT := draw_T (ro := ro) (Γ0 := Γ) (w0 := w) hy hc S hd hf.small (ops.size + 1) [] f h (fun e he => by cases he) hev
      apply wpIn_region_any hm
      have hrep : ∀ i (d : Bool), d = false → (Array.replicate ops.size false).getD i d = false := fun i d hd => by
        subst hd; simp only [Array.getD_eq_getD_getElem?, Array.getElem?_replicate]; split <;> rfl
      refine hT ops.size _ Γ a w.drew ⟨.refl Γ, (Below.refl N w).drew, hR.drew, fun t _ => hf.get t, hf.ds, hf.size, hf.small, by simp, fun i hi => ?_, fun i o hi => ?_, (fun e o hw => absurd hw.1 (by simp)), (fun e o hw => absurd hw.1 (by simp)), (fun e e' o o' d d' b hw => absurd hw.1 (by simp))⟩ ?_
      · rw [hrep i false rfl] at hi; cases hi
      · rw [hrep i false rfl] at hi; cases hi
      · unfold unl; simp
    cases hev : evDraw P callR ops (Nat.succ ops.size) [] f h with
    | norm f1 h1 =>
      rw [hev] at e
      have e : X.norm f1 h1 = x := e
      subst e
      exact key _ hev hx
    | pan v f1 h1 =>
      rw [hev] at e
      have e : X.pan v f1 h1 = x := e
      subst e
      exact key _ hev hx
    | _ => rw [hev] at e; first | exact absurd e.symm (hx _) | exact absurd e.symm (X.good_ne hx)

theorem reg_wp (hm : P.follows .mixedOrders = true) (hc : CallOK P N callR) {id : Nat} {d : Bool} (hx : x.good) (hd : ∀ o ∈ ops.toList, okD nt o) (hnd : ∀ o ∈ ops.toList, NoDef ro o) (hR : Rel N Γ h w) (hf : FR nt Γ f a) (e : evReg P callR ops d f h = x) :
    (Code.region id ops d).wpIn (fen ro) 0 P (PostX N nt Γ w x) a w := by
  cases d
  · exact region_wp hc hx hd hnd hR hf e
  · exact draw_wp hm hc hx hd hR hf e

/-! loops, by fuel -/
theorem least {p : Nat → Prop} : ∀ n, p n → ∃ m, p m ∧ ∀ k, p k → m ≤ k := by
  intro n
  induction n using Nat.strongRecOn with
  | _ n ih =>
    intro hp
    by_cases hs : ∃ m, m < n ∧ p m
    · obtain ⟨m, hm, hpm⟩ := hs; exact ih m hm hpm
    · exact ⟨n, hp, fun k hk => Nat.le_of_not_lt fun hlt => hs ⟨k, hlt, hk⟩⟩
open Classical in
theorem wp_loop_fuel {c : Code} {Q : Exit → Act → World → Prop} (I : Nat → Act → World → Prop)
    (round : ∀ n a w, I n a w → c.wpIn (fen ro) 0 P (Exit.then (fun a' w' => ∃ m, m < n ∧ I m a' w') Q) a w) {n : Nat} (h0 : I n a w) : (Code.loop c).wpIn (fen ro) 0 P Q a w := by
  refine wpIn_loop (fun a w => ∃ n, I n a w) (fun a w => if h : ∃ n, I n a w then (least (p := fun n => I n a w) h.choose h.choose_spec).choose else 0) ⟨n, h0⟩ fun a w hI => ?_
  have hspec := (least (p := fun n => I n a w) hI.choose hI.choose_spec).choose_spec
  refine wpIn_mono (round _ a w hspec.1) fun e a' w' hq => ?_
  cases e with
  | normal =>
    obtain ⟨m, hm, hIm⟩ := hq
    have hI' : ∃ n, I n a' w' := ⟨m, hIm⟩
    refine ⟨hI', ?_⟩
    rw [dif_pos hI, dif_pos hI']
    exact Nat.lt_of_le_of_lt ((least (p := fun n => I n a' w') hI'.choose hI'.choose_spec).choose_spec.2 m hIm) hm
  | _ => exact hq

theorem thenX_fail {s : String} {k : F → Hp → X} : thenX (.fail s) k = .fail s := rfl
theorem then_wp {c : Code} {k : F → Hp → X} {y : X} (hx : x.good) (e : thenX y k = x) (hy : y.good → c.wpIn (fen ro) 0 P (PostX N nt Γ w y) a w)
    {next : Act → World → Prop} (hk : ∀ f' h', y = .norm f' h' → k f' h' = x → ∀ Δ a' w', Γ.Le Δ → Rel N Δ h' w' → FR nt Δ f' a' → Below N w w' → next a' w') : c.wpIn (fen ro) 0 P (Exit.then next (PostX N nt Γ w x)) a w := by
  cases y with
  | fail s => exact absurd e.symm (hx s)
  | norm f' h' =>
    refine wpIn_mono (hy good_norm) fun e' a' w' hq => ?_
    cases e' with
    | normal => obtain ⟨Δ, h1, h2, h3, h4⟩ := hq; exact hk f' h' rfl e Δ a' w' h1 h2 h3 h4
    | _ => exact hq.elim
  | exit i f' h' =>
    have e : X.exit i f' h' = x := e
    subst e
    refine wpIn_mono (hy hx) fun e' a' w' hq => ?_
    cases e' <;> first | exact hq.elim | exact hq
  | ret f' h' =>
    have e : X.ret f' h' = x := e
    subst e
    refine wpIn_mono (hy hx) fun e' a' w' hq => ?_
    cases e' <;> first | exact hq.elim | exact hq
  | pan v f' h' =>
    have e : X.pan v f' h' = x := e
    subst e
    refine wpIn_mono (hy hx) fun e' a' w' hq => ?_
    cases e' <;> first | exact hq.elim | exact hq

theorem okOps_spec (h : okOps nt ops = true) : ∀ o ∈ ops.toList, okD nt o := fun o ho d hd => by
  unfold okOps at h
  rw [List.all_eq_true] at h
  have := h o ho
  rw [hd] at this
  exact Nat.le_of_ble_eq_true this

theorem plainOps_spec : ∀ {l : List Oper}, plainOps l = true → ∀ o ∈ l, ∀ c, o.op ≠ .defer c
  | [], _, o, ho => by cases ho
  | q :: l, e, o, ho => by
    have e : OpK.rec (motive := fun _ => Bool) (plainOps l) (fun _ => plainOps l) (fun _ => plainOps l) (fun _ => false) (opk q.op) = true := e
    have hl : plainOps l = true := by cases hq : opk q.op <;> rw [hq] at e <;> first | exact e | cases e
    rcases List.mem_cons.1 ho with rfl | ho
    · intro c hc
      rw [hc] at e
      cases e
    · exact plainOps_spec hl o ho

/-! ranges over functions -/
theorem loopK_inv {α : Type} {ob : Ob} {d r : α} {k : Nat → F → List Tmp → Code → Code → α} (e : loopK ob d k = r) (hr : r ≠ d) : ∃ st f ps a c, ob = .loop st f ps a c ∧ k st f ps a c = r := by
  cases ob <;> first | exact ⟨_, _, _, _, _, rfl, e⟩ | exact absurd e.symm hr
/-- an object that is no row is turned -/
theorem Rel.turn (R : Rel N Γ h w) {b c : Nat} {ob : Ob} {obj : Obj} (hs : Γ.σ b = some (c, 0)) (hg : gN ≤ b) (hlive : obAt b h ≠ .dead) (hno : ∀ arr el fz, obj ≠ .cells arr el fz) (hor : OR Γ 0 obj ob) (hone : ∀ t, ob ≠ .cells 1 t) :
    Rel N Γ (setOb b ob h) (w.putObj c obj) ∧ Below N w (w.putObj c obj) :=
  ⟨R.set hs hlive hor (fun arr el fz hh => absurd hh (hno arr el fz)) (by simp) (World.putObj_heap_same (R.blockLt hs)) (fun d hd => World.putObj_heap_other hd) (fun t ht => absurd ht (hone t)),
   ⟨rfl, rfl, rfl, by simp, fun k hk => World.putObj_heap_other (by exact fun e => R.own b c 0 hs hg (e ▸ hk))⟩⟩
theorem Rel.loopAt (R : Rel N Γ h w) {b c st : Nat} {f : F} {ps : List Tmp} {a0 c0 : Code} (hs : Γ.σ b = some (c, 0)) (ho : obAt b h = .loop st f ps a0 c0) : ∃ r : Loop, w.heap[c]? = some (.loop r) ∧ LoopR st r ∧
    (∀ st' r', LoopR st' r' → r'.tmps = r.tmps → r'.params = r.params → r'.assign = r.assign → r'.body = r.body → OR Γ 0 (.loop r') (.loop st' f ps a0 c0)) ∧
    ∃ nt, r.params.toList = ps ∧ r.assign = a0 ∧ r.body = c0 ∧ f.ds = .nl ∧ (∀ i, VR Γ (F.get i f) (r.tmps.getD i undef)) ∧ nt ≤ r.tmps.size ∧ nt ≤ 272 ∧ okCode nt a0 = true ∧ okCode nt c0 = true ∧ (∀ t ∈ ps, t < nt) ∧ plainC a0 = true ∧ plainC c0 = true := by
  obtain ⟨obj, h1, h2⟩ := R.live b c 0 hs
  rw [ho] at h2
  obtain ⟨_, r, nt, rfl, h3, h4, h5, h6, h7, h8, h9, h10, h11, h12, h13, h14, h15⟩ := h2
  exact ⟨r, h1, h3, fun st' r' hl e1 e2 e3 e4 => ⟨rfl, r', nt, rfl, hl, by rw [e2]; exact h4, by rw [e3]; exact h5, by rw [e4]; exact h6, h7, by rw [e1]; exact h8, by rw [e1]; exact h9, h10, h11, h12, h13, h14, h15⟩, nt, h4, h5, h6, h7, h8, h9, h10, h11, h12, h13, h14, h15⟩
theorem newX_inv {ob : Ob} {k : Nat → Hp → X} (e : newX ob h k = x) (hx : x.good) : h.n < 83521 ∧ k h.n ⟨setT h.n ob h.t, h.n + 1⟩ = x := by
  obtain ⟨h1, e1⟩ := ble_inv (show cond (Nat.ble (Nat.succ h.n) 83521) _ X.no = x from e) (X.good_ne hx)
  rw [forceN_eq] at e1
  exact ⟨h1, e1⟩
theorem textFn_inv {fn : Fn} (e : textFn P fn = true) : ∃ g fu c, fn = .func g ∧ P.funcs[g]? = some fu ∧ isNG fu = false ∧ fu.body = some c := by
  cases fn with
  | func g =>
    have e : hasText P g = true := e
    unfold hasText at e
    split at e
    · rename_i fu hfu
      cases hng : isNG fu
      · have hng' : (fu.name == "runtime.NumGoroutine") = false := hng
        rw [hng', cond_false] at e
        obtain ⟨c, hc⟩ := Option.isSome_iff_exists.1 e
        exact ⟨g, fu, c, rfl, hfu, hng, hc⟩
      · have hng' : (fu.name == "runtime.NumGoroutine") = true := hng
        rw [hng'] at e; cases e
    · cases e
  | _ => cases e

theorem range_wp (hm : P.follows .mixedOrders = true) (hc : CallOK P N callR) {y : Operand} {ps : Array Tmp} {a0 c0 : Code} (hok : okCode nt (.rangeFunc y ps a0 c0) = true) (e : evCode P callR (.rangeFunc y ps a0 c0) f h = x) (hx : x.good) (hR : Rel N Γ h w) (hf : FR nt Γ f a) :
    (Code.rangeFunc y ps a0 c0).wpIn (fen none) 0 P (PostX N nt Γ w x) a w := by
  obtain ⟨okp, ok12⟩ := cond_t (show cond (ps.toList.all fun t => Nat.ble (Nat.succ t) nt) (cond (okCode nt a0) (okCode nt c0) false) false = true from hok)
  obtain ⟨ok1, ok2⟩ := cond_t ok12
  obtain ⟨fn, fs, cap, hy, e1⟩ := AV.fnK_inv (show (opd y f).fnK X.no _ = x from e) (X.good_ne hx)
  have hgv := opd_rel hR hf y
  rw [hy] at hgv; simp only [VR] at hgv
  obtain ⟨g', fsv, csv, hG, h1, h2, h3⟩ := hgv
  obtain ⟨hp1, e2⟩ := cond_inv (show cond (plainC a0) _ X.no = x from e1) (X.good_ne hx)
  obtain ⟨hp2, e3⟩ := cond_inv e2 (X.good_ne hx)
  obtain ⟨htx, e4⟩ := cond_inv e3 (X.good_ne hx)
  obtain ⟨gi, fu, cb, rfl, hfu, hng, hbody⟩ := textFn_inv htx
  have h3 : g' = .func gi := h3
  subst h3
  obtain ⟨hn1, e5⟩ := newX_inv e4 hx
  obtain ⟨hn2, e6⟩ := newX_inv e5 hx
  obtain ⟨Δ1, le1, s1, run1, R1, B1⟩ := newObj_ok (P := P) (ob := .dfr) (obj := .deferred (some [])) hR hn1 (fun _ _ _ h => by cases h) (fun Δ _ => ⟨rfl, rfl⟩)
  refine wpIn_rangeFunc fun fnid _ => ?_
  let rec0 : Loop := { state := .ready, pending := none, fn := fnid, tmps := a.tmps, params := ps, assign := a0, body := c0, defers := w.heap.size }
  obtain ⟨Δ2, le2, s2, run2, R2, B2⟩ := newObj_ok (P := P) (ob := .loop 0 ⟨f.t, .nl⟩ ps.toList a0 c0) (obj := .loop rec0) R1 hn2 (fun _ _ _ h => by cases h) (fun Δ hle =>
    ⟨rfl, rec0, nt, rfl, ⟨rfl, rfl⟩, rfl, rfl, rfl, rfl, fun i => ((hf.get i).mono le1).mono hle, hf.size, hf.small, ok1, ok2, fun t ht => by
      have := List.all_eq_true.1 okp t ht
      exact Nat.le_of_ble_eq_true this, hp1, hp2⟩)
  have le12 := le1.trans le2
  have s2' : Δ2.σ (h.n + 1) = some (w.heap.size + 1, 0) := by
    have := s2
    simpa using this
  have hargs : VRs Δ2 (appL (appL fs (.cn (.fn (.yield (h.n + 1)) .nl .nl) .nl)) cap) ((fsv.toList ++ [Value.func (.yield (w.heap.size + 1)) #[] #[]]) ++ csv.toList) := by
    refine appL_vals _ _ _ _ (appL_vals _ _ _ _ (h1.mono le12) ?_) (h2.mono le12)
    simp only [VRs, VR]
    exact ⟨_, [], rfl, ⟨.yield (w.heap.size + 1), #[], #[], rfl, rfl, rfl, ⟨_, s2', rfl⟩⟩, rfl⟩
  have hrunC := run_callFunc (P := P) (w := (w.alloc (.deferred (some []))).alloc (.loop rec0)) (args := ((fsv.toList ++ [Value.func (.yield (w.heap.size + 1)) #[] #[]]) ++ csv.toList).toArray) hfu hng hbody
  have e6 : R.rec (motive := fun _ => X) X.fail (fun _ h3 => endLoopX (h.n + 1) ⟨f.t, .cn (.ptr h.n 0) f.ds⟩ h3) (fun _ _ => .no) (callR gi (appL (appL fs (.cn (.fn (.yield (h.n + 1)) .nl .nl) .nl)) cap) ⟨setT (h.n + 1) (.loop 0 ⟨f.t, .nl⟩ ps.toList a0 c0) (setT h.n .dfr h.t), h.n + 1 + 1⟩) = x := e6
  cases hcall : callR gi (appL (appL fs (.cn (.fn (.yield (h.n + 1)) .nl .nl) .nl)) cap) ⟨setT (h.n + 1) (.loop 0 ⟨f.t, .nl⟩ ps.toList a0 c0) (setT h.n .dfr h.t), h.n + 1 + 1⟩ with
  | fail s => rw [hcall] at e6; exact absurd e6.symm (hx _)
  | pan _ _ => rw [hcall] at e6; exact absurd e6.symm (X.good_ne hx)
  | ok v h3 =>
    rw [hcall] at e6
    have e7 : endLoopX (h.n + 1) ⟨f.t, .cn (.ptr h.n 0) f.ds⟩ h3 = x := e6
    have hd := hc.fn gi _ _ Δ2 _ _ _ hcall R.good_ok R2 hargs
    have hcalls : Calls P gi ((fsv.toList ++ [Value.func (.yield (w.heap.size + 1)) #[] #[]]) ++ csv.toList).toArray ((w.alloc (.deferred (some []))).alloc (.loop rec0)) (EndR N Δ2 ((w.alloc (.deferred (some []))).alloc (.loop rec0)) (.ok v h3)) := by
      rcases hd with ⟨val, w', nx, k1, k2, _⟩ | ⟨val, w', k1, _⟩ | ⟨g2, args2, w3, k1, k2⟩
      · have k1 := hrunC.symm.trans k1
        rcases k2 with rfl | ⟨rfl, _⟩ <;> cases k1
      · have k1 := hrunC.symm.trans k1; cases k1
      · have k1 := hrunC.symm.trans k1
        cases k1
        exact k2
    refine ⟨w.heap.size + 1, [{ target := .collected w.heap.size, args := #[] }], (w.alloc (.deferred (some []))).alloc (.loop rec0), { target := .fn (.func gi) csv, args := fsv ++ #[Value.func (.yield (w.heap.size + 1)) #[] #[]] }, (w.alloc (.deferred (some []))).alloc (.loop rec0), gi,
      ((fsv.toList ++ [Value.func (.yield (w.heap.size + 1)) #[] #[]]) ++ csv.toList).toArray, (w.alloc (.deferred (some []))).alloc (.loop rec0), run_enterLoop_outer fnid a.tmps ps a0 c0, ?_, fun _ _ => trivial, ?_, fen_depth, ?_⟩
    · simp only [resolve, rangeCall, hG, Deferred.ofValue, Sem.run_bind, Sem.run_pure, Result.andThen_ok]
      simp [Act.eval]
    · have hap : (fsv ++ #[Value.func (.yield (w.heap.size + 1)) #[] #[]]) ++ csv = ((fsv.toList ++ [Value.func (.yield (w.heap.size + 1)) #[] #[]]) ++ csv.toList).toArray := by apply Array.ext'; simp
      simp only [invoke, hap]; exact hrunC
    · refine callsIn_wide.2 (hcalls.mono fun e' w3 he => ?_)
      cases e' with
      | panicked ch => exact he.elim
      | outgrown => exact he.elim
      | returned val =>
        obtain ⟨Δ3, g1, _, g3, g4⟩ := he
        obtain ⟨st, f0, ps0, a1, c1, hob, e8⟩ := loopK_inv e7 (X.good_ne hx)
        obtain ⟨hgL, e9⟩ := ble_inv e8 (X.good_ne hx)
        have s3 := g1.σ _ _ s2'
        obtain ⟨r3, hr3, hst, hor, _⟩ := g3.loopAt s3 hob
        have hlive : obAt (h.n + 1) h3 ≠ .dead := by rw [hob]; exact fun h => by cases h
        obtain ⟨R4, B4⟩ := g3.turn (obj := .loop { r3 with state := .exhausted }) (ob := .dead) s3 hgL hlive (fun _ _ _ h => by cases h) trivial (fun t h => by cases h)
        have hend0 := fun hb => run_endLoop (P := P) hr3 hb
        generalize hw4 : w3.putObj (w.heap.size + 1) (.loop { r3 with state := .exhausted }) = w4 at R4 B4 hend0
        have hle := le12.trans g1
        have hB : Below N w w4 := (B1.trans B2).trans (g4.trans B4)
        have hFR : FR nt Δ3 ⟨f.t, .cn (.ptr h.n 0) f.ds⟩ { a with defers := [{ target := .collected w.heap.size, args := #[] }] ++ a.defers } :=
          ⟨fun i => (hf.get i).mono hle, by
            simp only [DR]
            exact ⟨_, _, rfl, .inr ⟨_, _, rfl, rfl, g1.σ _ _ (le2.σ _ _ s1)⟩, hf.ds.mono hle⟩, hf.size, hf.small⟩
        match st, hst, e9 with
        | 0, hst, e9 =>
          refine ⟨none, w4, by rw [hend0 (by rw [hst.1]; exact fun h => by cases h), hst.2], ?_⟩
          have e9 : X.norm ⟨f.t, .cn (.ptr h.n 0) f.ds⟩ (setOb (h.n + 1) .dead h3) = x := e9
          subst e9
          exact ⟨Δ3, hle, R4, hFR, hB⟩
        | 1, hst, e9 => exact absurd e9.symm (X.good_ne hx)
        | 2, hst, e9 =>
          refine ⟨some .ret, w4, by rw [hend0 (by rw [hst.1]; exact fun h => by cases h), hst.2], ?_⟩
          have e9 : X.ret ⟨f.t, .cn (.ptr h.n 0) f.ds⟩ (setOb (h.n + 1) .dead h3) = x := e9
          subst e9
          exact wpIn_ret ⟨Δ3, hle, R4, hFR, hB⟩
        | id + 3, hst, e9 =>
          refine ⟨some (.exit id), w4, by rw [hend0 (by rw [hst.1]; exact fun h => by cases h), hst.2], ?_⟩
          have e9 : X.exit id ⟨f.t, .cn (.ptr h.n 0) f.ds⟩ (setOb (h.n + 1) .dead h3) = x := e9
          subst e9
          exact wpIn_exit ⟨rfl, Δ3, hle, R4, hFR, hB⟩

theorem evCode_wpIn (hm : P.follows .mixedOrders = true) (hc : CallOK P N callR) : ∀ (c : Code), okCode nt c = true → (ro = none ∨ plainC c = true) → ∀ (f : F) (h : Hp) (x : X), evCode P callR c f h = x → x.good → ∀ (Γ : Ctx) (a : Act) (w : World), Rel N Γ h w → FR nt Γ f a → c.wpIn (fen ro) 0 P (PostX N nt Γ w x) a w := by
  intro c
  induction c with
  | skip =>
    intro _ _ f h x e hx Γ a w hR hf
    have e : X.norm f h = x := e
    subst e
    exact wpIn_skip ⟨Γ, .refl Γ, hR, hf, .refl N w⟩
  | region id ops d =>
    intro hok hp f h x e hx Γ a w hR hf
    exact reg_wp hm hc hx (okOps_spec hok) (hp.elim (fun h o _ => .inl h) fun h o ho => .inr (plainOps_spec h o ho)) hR hf e
  | seq c1 c2 ih1 ih2 =>
    intro hok hp f h x e hx Γ a w hR hf
    obtain ⟨ok1, ok2⟩ := cond_t (show cond (okCode nt c1) (okCode nt c2) false = true from hok)
    have p1 : ro = none ∨ plainC c1 = true := hp.imp id fun h => (cond_t (show cond (plainC c1) (plainC c2) false = true from h)).1
    have p2 : ro = none ∨ plainC c2 = true := hp.imp id fun h => (cond_t (show cond (plainC c1) (plainC c2) false = true from h)).2
    refine wpIn_seq (then_wp hx (show thenX (evCode P callR c1 f h) (evCode P callR c2) = x from e) (fun hy => ih1 ok1 p1 f h _ rfl hy Γ a w hR hf) fun f' h' _ e2 Δ a' w' g1 g2 g3 g4 => ?_)
    exact wpIn_mono (ih2 ok2 p2 f' h' x e2 hx Δ a' w' g2 g3) fun e'' a'' w'' hq => hq.from g1 g4
  | cond y c1 c2 ih1 ih2 =>
    intro hok hp f h x e hx Γ a w hR hf
    obtain ⟨ok1, ok2⟩ := cond_t (show _root_.cond (okCode nt c1) (okCode nt c2) false = true from hok)
    have p1 : ro = none ∨ plainC c1 = true := hp.imp id fun h => (cond_t (show _root_.cond (plainC c1) (plainC c2) false = true from h)).1
    have p2 : ro = none ∨ plainC c2 = true := hp.imp id fun h => (cond_t (show _root_.cond (plainC c1) (plainC c2) false = true from h)).2
    obtain ⟨t, hy, e1⟩ := AV.boolK_inv (show (opd y f).boolK X.no _ = x from e) (X.good_ne hx)
    have hv := opd_rel hR hf y
    rw [hy] at hv; simp only [VR] at hv
    refine wpIn_cond hv ?_
    cases t
    · exact ih2 ok2 p2 f h x e1 hx Γ a w hR hf
    · exact ih1 ok1 p1 f h x e1 hx Γ a w hR hf
  | block id c ih =>
    intro hok hp f h x e hx Γ a w hR hf
    have e : blockX id (evCode P callR c f h) = x := e
    cases hy : evCode P callR c f h with
    | fail s => rw [hy] at e; exact absurd e.symm (hx s)
    | norm f' h' =>
      rw [hy] at e
      have e : X.norm f' h' = x := e
      subst e
      refine wpIn_block (wpIn_mono (ih hok hp f h _ hy good_norm Γ a w hR hf) fun e' a' w' hq => ?_)
      cases e' <;> first | exact hq.elim | exact hq
    | exit i f' h' =>
      rw [hy] at e
      have e : _root_.cond (Nat.beq i id) (X.norm f' h') (.exit i f' h') = x := e
      refine wpIn_block (wpIn_mono (ih hok hp f h _ hy (fun s hs => by cases hs) Γ a w hR hf) fun e' a' w' hq => ?_)
      cases e' <;> try exact hq.elim
      rename_i j
      obtain ⟨rfl, hst⟩ := hq
      show if j = id then _ else _
      cases hb : Nat.beq j id
      · rw [hb] at e
        have e : X.exit j f' h' = x := e
        subst e
        rw [if_neg (fun hh => by subst hh; rw [Nat.beq_refl] at hb; cases hb)]
        exact ⟨rfl, hst⟩
      · rw [hb] at e
        have e : X.norm f' h' = x := e
        subst e
        rw [if_pos (Nat.eq_of_beq_eq_true hb)]
        exact hst
    | ret f' h' =>
      rw [hy] at e
      have e : X.ret f' h' = x := e
      subst e
      refine wpIn_block (wpIn_mono (ih hok hp f h _ hy hx Γ a w hR hf) fun e' a' w' hq => ?_)
      cases e' <;> first | exact hq.elim | exact hq
    | pan v f' h' =>
      rw [hy] at e
      have e : X.pan v f' h' = x := e
      subst e
      refine wpIn_block (wpIn_mono (ih hok hp f h _ hy hx Γ a w hR hf) fun e' a' w' hq => ?_)
      cases e' <;> first | exact hq.elim | exact hq
  | loop c ih =>
    intro hok hp f h x e hx Γ a w hR hf
    have e : loopN (evCode P callR c) LF f h = x := e
    refine wp_loop_fuel (fun n a' w' => ∃ f' h' Δ, loopN (evCode P callR c) n f' h' = x ∧ Γ.Le Δ ∧ Rel N Δ h' w' ∧ FR nt Δ f' a' ∧ Below N w w') (fun n a1 w1 hI => ?_) (n := LF) ⟨f, h, Γ, e, .refl Γ, hR, hf, .refl N w⟩
    obtain ⟨f', h', Δ, e1, g1, g2, g3, g4⟩ := hI
    cases n with
    | zero => exact absurd e1.symm (X.good_ne hx)
    | succ n =>
      have e1 : thenX (evCode P callR c f' h') (loopN (evCode P callR c) n) = x := e1
      have := then_wp (N := N) (nt := nt) (Γ := Δ) (w := w1) (a := a1) (next := fun a' w' => ∃ m, m < n + 1 ∧ ∃ f' h' Δ, loopN (evCode P callR c) m f' h' = x ∧ Γ.Le Δ ∧ Rel N Δ h' w' ∧ FR nt Δ f' a' ∧ Below N w w') hx e1 (fun hy => ih hok hp f' h' _ rfl hy Δ a1 w1 g2 g3)
        (fun f2 h2 _ e2 Θ a2 w2 k1 k2 k3 k4 => ⟨n, Nat.lt_succ_self n, f2, h2, Θ, e2, g1.trans k1, k2, k3, g4.trans k4⟩)
      refine wpIn_mono this fun e' a' w' hq => ?_
      cases e' with
      | normal => exact hq
      | _ => exact PostX.from g1 g4 hq
  | rangeFunc g ps a0 c0 iha ihc =>
    intro hok hp f h x e hx Γ a w hR hf
    have hro : ro = none := hp.resolve_right fun h => by cases h
    subst hro
    exact range_wp hm hc hok e hx hR hf
  | exit id =>
    intro _ _ f h x e hx Γ a w hR hf
    have e : X.exit id f h = x := e
    subst e
    exact wpIn_exit ⟨rfl, Γ, .refl Γ, hR, hf, .refl N w⟩
  | scope c ih =>
    intro hok hp f h x e hx Γ a w hR hf
    have hro : ro = none := hp.resolve_right fun h => by cases h
    subst hro
    refine wpIn_wide.2 (wp_scope_straight (wp_mono (wpIn_wide.1 (ih hok (.inl rfl) f h x e hx Γ a w hR hf)) fun e' a' w' hq => ?_))
    cases x <;> cases e' <;> first | exact hq.elim | exact hq
  | label l =>
    intro _ _ f h x e hx Γ a w hR hf
    have e : X.norm f h = x := e
    subst e
    exact wpIn_label ⟨Γ, .refl Γ, hR, hf, .refl N w⟩
  | goto l => intro _ _ f h x e hx; exact absurd e.symm (X.good_ne hx)
  | ret =>
    intro _ _ f h x e hx Γ a w hR hf
    have e : X.ret f h = x := e
    subst e
    exact wpIn_ret ⟨Γ, .refl Γ, hR, hf, .refl N w⟩
  | refuse s => intro _ _ f h x e hx; exact absurd e.symm (X.good_ne hx)
theorem evCode_wp (hm : P.follows .mixedOrders = true) (hc : CallOK P N callR) (c : Code) (hok : okCode nt c = true) (f : F) (h : Hp) (x : X) (e : evCode P callR c f h = x) (hx : x.good) (Γ : Ctx) (a : Act) (w : World) (hR : Rel N Γ h w) (hf : FR nt Γ f a) : c.wp P (PostX N nt Γ w x) a w :=
  (wpIn_wide (n := 0)).1 (evCode_wpIn (ro := none) hm hc c hok (.inl rfl) f h x e hx Γ a w hR hf)
/-! a round -/
theorem setPs_inv : ∀ (ps : List Tmp) (args : AV) (vs : List Value) (f : F) (tmps : Array Value) (k : F → R), setPs ps args f k = r → r ≠ .no → VRs Γ args vs → f.ds = .nl → (∀ t ∈ ps, t < nt) → FR nt Γ f { tmps := tmps, defers := [] } →
    ∃ f1, k f1 = r ∧ vs.length = ps.length ∧ FR nt Γ f1 { tmps := (ps.zip vs).foldl (fun tm (t, v) => tm.setIfInBounds t v) tmps, defers := [] }
  | [], args, vs, f, tmps, k, e, hr, hv, hds, hps, hf => by
    obtain ⟨rfl, e1⟩ := AV.nlK_inv (show args.nlK Ev.R.no (k f) = r from e) hr
    simp only [VRs] at hv; subst hv
    exact ⟨f, e1, rfl, hf⟩
  | p :: ps, args, vs, f, tmps, k, e, hr, hv, hds, hps, hf => by
    obtain ⟨y, l, rfl, e1⟩ := AV.cnK_inv (show args.cnK Ev.R.no (fun v r => setPs ps r (F.set p v f) k) = r from e) hr
    simp only [VRs] at hv
    obtain ⟨u, vr, rfl, hu, hvr⟩ := hv
    have h1 : FR nt Γ (F.set p y f) { tmps := tmps.setIfInBounds p u, defers := [] } := hf.put (d := some p) (fun i hi => by cases hi; exact hps p (by simp)) hu
    obtain ⟨f1, k1, k2, k3⟩ := setPs_inv ps l vr (F.set p y f) (tmps.setIfInBounds p u) k e1 hr hvr hds (fun t ht => hps t (by simp [ht])) h1
    exact ⟨f1, k1, by simp [k2], k3⟩
theorem endRound_ok {b c st : Nat} {t : Bool} {jump : Option Code} {w3 : World} {h3 : Hp} (hle : Γ.Le Δ) (hR : Rel N Δ h3 w3) (hB : Below N w w3) (hs : Δ.σ b = some (c, 0)) (e : endRoundR b st t h3 = r) (hr : r.good) (ht : t = jump.isNone)
    (hst : ∀ q : Loop, LoopR st { q with state := if jump.isNone then .ready else .done, pending := jump }) : ∃ v w', (Instr.endRound c jump).run P w3 = .ok v w' ∧ EndR N Γ w r (.returned v) w' := by
  obtain ⟨s0, f0, ps0, a1, c1, hob, e1⟩ := loopK_inv e (R.good_ne hr)
  obtain ⟨_, e2⟩ := beq_inv e1 (R.good_ne hr)
  obtain ⟨hg, e3⟩ := wr_inv e2 (R.good_ne hr)
  obtain ⟨r3, hr3, _, hor, _⟩ := hR.loopAt hs hob
  have hlive : obAt b h3 ≠ .dead := by rw [hob]; exact fun h => by cases h
  obtain ⟨R4, B4⟩ := hR.turn (obj := .loop { r3 with state := if jump.isNone then .ready else .done, pending := jump }) (ob := .loop st f0 ps0 a1 c1) hs hg hlive (fun _ _ _ h => by cases h) (hor st _ (hst r3) rfl rfl rfl rfl) (fun t h => by cases h)
  subst e3
  exact ⟨_, _, run_endRound jump hr3, Δ, hle, by rw [ht]; simp only [VR], R4, hB.trans B4⟩
theorem roundR_does (hm : P.follows .mixedOrders = true) (hc : CallOK P N callR) (hR : Rel N Γ h w) {b c : Nat} (hs : Γ.σ b = some (c, 0)) {args : AV} {vs : List Value} (hv : VRs Γ args vs) (e : roundR P callR b args h = r) (hr : r.good) : DoesY true P N Γ w (Instr.yield c vs.toArray) r := by
  obtain ⟨st, f0, ps, a0, c0, hob, e1⟩ := loopK_inv e (R.good_ne hr)
  obtain ⟨r0, hr0, _, _, nt, q1, q2, q3, q4, q5, q6, q7, q8, q9, q10, q11, q12⟩ := hR.loopAt hs hob
  obtain ⟨f1, e2, hlen, hf1⟩ := setPs_inv (nt := nt) ps args vs f0 r0.tmps _ e1 (R.good_ne hr) hv q4 q10 ⟨q5, by rw [q4]; simp only [DR], q6, q7⟩
  have hsz : vs.toArray.size = r0.params.size := by
    have := congrArg List.length q1
    simp at this ⊢; omega
  refine .inr ⟨rfl, c, r0.fn, _, r0.assign, r0.body, w, run_yield hr0 hsz, ?_⟩
  have htm : (r0.params.zip vs.toArray).foldl (fun tmps (t, a) => tmps.setIfInBounds t a) r0.tmps = (ps.zip vs).foldl (fun tm (t, v) => tm.setIfInBounds t v) r0.tmps := by
    rw [← Array.foldl_toList, Array.toList_zip, q1]
  rw [htm, q2, q3]
  refine roundIn_of_wpIn (F := Fence.wide) trivial ?_
  have e2 : roundX b (thenX (normX (evCode P callR a0 f1 h)) (beginX b (evCode P callR c0))) = r := e2
  cases hy : evCode P callR a0 f1 h with
  | fail s => rw [hy] at e2; exact absurd e2.symm (hr s)
  | exit i f2 h2 => rw [hy] at e2; exact absurd e2.symm (hr _)
  | ret f2 h2 => rw [hy] at e2; exact absurd e2.symm (hr _)
  | pan v f2 h2 => rw [hy] at e2; exact absurd e2.symm (hr _)
  | norm f2 h2 =>
    rw [hy] at e2
    have e2 : roundX b (beginX b (evCode P callR c0) f2 h2) = r := e2
    have hbx : (beginX b (evCode P callR c0) f2 h2).good := fun s hh => by rw [hh] at e2; exact hr s e2.symm
    refine wpIn_mono (evCode_wpIn (ro := some c) hm hc a0 q8 (.inr q11) f1 h _ hy good_norm Γ _ w hR hf1) fun e' a' w' hq => ?_
    cases e' <;> try exact hq.elim
    obtain ⟨Δ, g1, g2, g3, g4⟩ := hq
    obtain ⟨s0, f3, ps3, a3, c3, hob2, e3⟩ := loopK_inv (show beginX b (evCode P callR c0) f2 h2 = _ from rfl) (X.good_ne hbx)
    obtain ⟨hs0, e4⟩ := beq_inv e3 (X.good_ne hbx)
    obtain ⟨hg, e5⟩ := ble_inv e4 (X.good_ne hbx)
    subst hs0
    have s2 := g1.σ _ _ hs
    obtain ⟨r2, hr2, hst2, hor2, _⟩ := g2.loopAt s2 hob2
    have hlive : obAt b h2 ≠ .dead := by rw [hob2]; exact fun h => by cases h
    obtain ⟨R4, B4⟩ := g2.turn (obj := .loop { r2 with state := .busy }) (ob := .loop 1 f3 ps3 a3 c3) s2 hg hlive (fun _ _ _ h => by cases h) (hor2 1 _ rfl rfl rfl rfl rfl) (fun t h => by cases h)
    refine ⟨_, run_beginRound hr2 hst2.1, ?_⟩
    refine wpIn_mono (evCode_wpIn (ro := some c) hm hc c0 q9 (.inr q12) f2 _ _ e5 hbx Δ _ _ R4 g3) fun e' a' w3 hq => ?_
    cases hx : beginX b (evCode P callR c0) f2 h2 with
    | fail s => exact absurd hx (hbx s)
    | pan v f4 h4 => rw [hx] at e2; exact absurd e2.symm (R.good_ne hr)
    | norm f4 h4 =>
      rw [hx] at e2 hq
      cases e' <;> try exact hq.elim
      obtain ⟨Θ, k1, k2, k3, k4⟩ := hq
      exact endRound_ok (t := true) (st := 0) (jump := none) (g1.trans k1) k2 (g4.trans (B4.trans k4)) (k1.σ _ _ s2) e2 hr rfl (fun q => ⟨rfl, rfl⟩)
    | ret f4 h4 =>
      rw [hx] at e2 hq
      cases e' <;> try exact hq.elim
      obtain ⟨Θ, k1, k2, k3, k4⟩ := hq
      exact endRound_ok (t := false) (st := 2) (jump := some .ret) (g1.trans k1) k2 (g4.trans (B4.trans k4)) (k1.σ _ _ s2) e2 hr rfl (fun q => ⟨rfl, rfl⟩)
    | exit eid f4 h4 =>
      rw [hx] at e2 hq
      cases e' <;> try exact hq.elim
      rename_i j
      obtain ⟨hj, Θ, k1, k2, k3, k4⟩ := hq
      rw [hj]
      have e2 : (forceN (Nat.add eid 3) fun k => endRoundR b k false h4) = r := e2
      rw [forceN_eq] at e2
      exact endRound_ok (t := false) (st := eid + 3) (jump := some (.exit eid)) (g1.trans k1) k2 (g4.trans (B4.trans k4)) (k1.σ _ _ s2) e2 hr rfl (fun q => ⟨rfl, rfl⟩)
end
end Go.Ev

/- Results; deferred calls. -/
namespace Go.Ev
open Go Go.RowKit

section
variable {P : Program} {N : Nat → Prop} {nt : Nat} {Γ Γ0 Δ : Ctx} {h h' : Hp} {w w0 w' : World} {v : AV} {f f' g : F} {a : Act} {o : Oper} {callR : Nat → AV → Hp → R} {r : R} {x : X} {ops : Array Oper} {A A' : List Nat} {listed : Array Bool}

def resOne (tmps : Array Value) : ResultVar → Sem Value
  | .tmp t => pure (tmps.getD t undef)
  | .cell a t => do loadVar t (← asAddr (tmps.getD a undef))
theorem resL_ok (hR : Rel N Γ h w) (hf : FR nt Γ f a) (hr : r ≠ .no) : ∀ (l : List ResultVar) (c : AV → R), resL P l f h c = r → ∃ avs vs, c avs = r ∧ VRs Γ avs vs ∧ (l.mapM (resOne a.tmps)).run P w = .ok vs w
  | [], c, e => ⟨.nl, [], e, by simp only [VRs], by simp⟩
  | y :: l, c, e => by
    cases y with
    | tmp t =>
      have e : resL P l f h (fun l => c (.cn (F.get t f) l)) = r := e
      obtain ⟨avs, vs, e1, h1, h2⟩ := resL_ok hR hf hr l _ e
      refine ⟨_, a.tmps.getD t undef :: vs, e1, by simp only [VRs]; exact ⟨_, _, rfl, hf.get t, h1⟩, ?_⟩
      simp [List.mapM_cons, resOne, h2]
    | cell p t =>
      obtain ⟨b, q, hp, e1⟩ := AV.ptrK_inv (show (F.get p f).ptrK Ev.R.no _ = r from e) hr
      have hv := hf.get p
      rw [hp] at hv; simp only [VR] at hv
      obtain ⟨cc, q0, hs, hX⟩ := hv
      obtain ⟨u, uv, e2, hrun, hu⟩ := loadVar_ok (P := P) (t := t) (k := fun v => resL P l f h fun l => c (.cn v l)) hR hs hr e1
      obtain ⟨avs, vs, e3, h1, h2⟩ := resL_ok hR hf hr l _ e2
      refine ⟨_, uv :: vs, e3, by simp only [VRs]; exact ⟨_, _, rfl, hu, h1⟩, ?_⟩
      have hX' : a.tmps[p]?.getD undef = .pointer (some ⟨cc, q0 + q, none⟩) := by rw [← Array.getD_eq_getD_getElem?]; exact hX
      simp [List.mapM_cons, resOne, hX', asAddr, hrun, h2]
theorem resR_ok (hR : Rel N Γ h w) (hf : FR nt Γ f a) {fn : Func} (e : resR P fn.results.toList f h = .ok v h') : h' = h ∧ ∃ val, (results fn a.tmps).run P w = .ok val w ∧ VR Γ v val := by
  obtain ⟨avs, vs, e1, h1, h2⟩ := resL_ok hR hf ok_ne_no fn.results.toList _ e
  have hrun : (results fn a.tmps).run P w = .ok (if h : vs.toArray.size = 1 then vs.toArray[0] else .tuple vs.toArray) w := by
    have this : (fn.results.mapM (resOne a.tmps)).run P w = .ok vs.toArray w := by
      rw [Array.mapM_eq_mapM_toList]; simp [h2]
    have h3 : results fn a.tmps = (do let vs ← fn.results.mapM (resOne a.tmps); pure (if h : vs.size = 1 then vs[0] else .tuple vs)) := by
      unfold results
      congr 1
    rw [h3]
    simp only [Sem.run_bind, this, Result.andThen_ok, Sem.run_pure]
  rw [hrun]
  match avs, vs, h1, e1 with
  | .nl, vs, h1, e1 =>
    simp only [VRs] at h1; subst h1
    obtain ⟨rfl, rfl⟩ := ok_inj (show Ev.R.ok _ _ = _ from e1)
    exact ⟨rfl, _, rfl, by simp [VR, VRs]⟩
  | .cn y .nl, vs, h1, e1 =>
    simp only [VRs] at h1
    obtain ⟨u, r0, rfl, hu, rfl⟩ := h1
    obtain ⟨rfl, rfl⟩ := ok_inj (show Ev.R.ok _ _ = _ from e1)
    exact ⟨rfl, _, rfl, by simpa using hu⟩
  | .cn y (.cn z l), vs, h1, e1 =>
    have h1' := h1
    simp only [VRs] at h1
    obtain ⟨u, r0, rfl, hu, u2, r2, rfl, hu2, hl⟩ := h1
    obtain ⟨rfl, rfl⟩ := ok_inj (show Ev.R.ok _ _ = _ from e1)
    refine ⟨rfl, _, rfl, ?_⟩
    rw [dif_neg (by simp)]
    simp only [VR]; exact ⟨_, rfl, h1'⟩
end
end Go.Ev

/- Functions. -/
namespace Go.Ev
open Go Go.RowKit

section
variable {P : Program} {N : Nat → Prop} {nt : Nat} {Γ Γ0 Δ : Ctx} {h h' : Hp} {w w0 w' : World} {v : AV} {f f' g : F} {a : Act} {o : Oper} {callR : Nat → AV → Hp → R} {r : R} {x : X} {ops : Array Oper} {A A' : List Nat} {listed : Array Bool}

theorem isRec_run (hr : isRec o.op = true) : (execOp a.eval o).run P w = .ok .recover w := by
  unfold isRec at hr
  split at hr
  · rename_i c ho
    split at hr
    · rename_i hcal
      simp [execOp, ho, resolve, hcal, invoke, builtin]
    · cases hr
  · cases hr
theorem evOpsD_wp (hc : CallOK P N callR) {cs : List Frame} (hcs : recoverD cs = none) (hx : x.good) : ∀ (l : List Oper) (i : Nat) (Γ : Ctx) (f : F) (h : Hp) (a : Act) (w : World), ops.toList.drop i = l → (∀ o ∈ l, okD nt o) → Γ0.Le Γ → Below N w0 w → Rel N Γ h w → FR nt Γ f a →
    evOpsD P callR ops l f h = x → wpOpsS P ops (fun e a' cs' w' => cs' = cs ∧ PostX N nt Γ0 w0 x e a' w') (List.range' i l.length) a cs w
  | [], i, Γ, f, h, a, w, hl, hd, hle, hb, hR, hf, e => by
    change X.norm f h = x at e
    subst e
    exact ⟨rfl, Γ, hle, hR, hf, hb⟩
  | o :: l, i, Γ, f, h, a, w, hl, hd, hle, hb, hR, hf, e => by
    have hi : ops[i]? = some o := by
      have := congrArg (fun l => l[0]?) hl
      simpa using this
    have hl' : ops.toList.drop (i + 1) = l := by
      have := congrArg List.tail hl
      simpa using this
    have ih := evOpsD_wp hc hcs hx l (i + 1)
    have hdo := hd o (by simp)
    have hdl : ∀ o ∈ l, okD nt o := fun o ho => hd o (by simp [ho])
    rw [List.length_cons, List.range'_succ]
    simp only [wpOpsS, hi]
    rcases guardX_inv hf (show guardX ops o.guard f (Bool.rec (motive := fun _ => X) (doO P (noYR callR) o (evOpsD P callR ops l) f h) (evOpsD P callR ops l (putD o.dst .nili f) h) (isRec o.op)) (evOpsD P callR ops l (putD o.dst un f) h) = x from e) hx with ⟨hw, e1⟩ | ⟨hw, e1⟩
    · rw [if_pos hw]
      cases hrec : isRec o.op
      · rw [hrec] at e1
        have hwp := doO_wp3 noYR_tup (K := fun a' w' => wpOpsS P ops (fun e a' cs' w' => cs' = cs ∧ PostX N nt Γ0 w0 x e a' w') (List.range' (i + 1) l.length) a' cs w') (Q := fun e a' w' => True ∧ PostX N nt Γ0 w0 x e a' w') (noYR_ok hc) hle hb hR hf hdo e1 hx (fun f' h' e2 Δ a' w' g1 g2 g3 g4 => ih Δ f' h' a' w' hl' hdl g1 g2 g3 g4 e2) (fun v h' hxe Δ val w' g1 g2 g3 g4 g5 => by
          subst hxe
          exact ⟨trivial, Δ, val, rfl, g1, g4, g3, g5, g2⟩)
        unfold Oper.wp at hwp
        split
        · rename_i w' hrun
          rw [hrun] at hwp
          exact hwp.elim
        · exact hwp
      · rw [hrec] at e1
        rw [isRec_run hrec]
        simp only [hcs]
        exact ih Γ _ h _ w hl' hdl hle hb hR (hf.put hdo (by simp only [VR])) e1
    · rw [if_neg (by rw [hw]; decide)]
      exact ih Γ _ h _ w hl' hdl hle hb hR (hf.put hdo (VR_un Γ)) e1

theorem evCodeD_wp (hm : P.follows .mixedOrders = true) (hc : CallOK P N callR) {cs : List Frame} (hcs : recoverD cs = none) : ∀ (c : Code), okCode nt c = true → ∀ (f : F) (h : Hp) (x : X), evCodeD P callR c f h = x → x.good → ∀ (Γ : Ctx) (a : Act) (w : World), Rel N Γ h w → FR nt Γ f a →
    c.wpS P (fun e a' cs' w' => cs' = cs ∧ PostX N nt Γ w x e a' w') a cs w := by
  have plain : ∀ (c : Code), okCode nt c = true → ∀ (f : F) (h : Hp) (x : X), evCode P callR c f h = x → x.good → ∀ (Γ : Ctx) (a : Act) (w : World), Rel N Γ h w → FR nt Γ f a →
      c.wpS P (fun e a' cs' w' => cs' = cs ∧ PostX N nt Γ w x e a' w') a cs w := fun c hok f h x e hx Γ a w hR hf =>
    wpS_of_wp (wp_mono (evCode_wp hm hc c hok f h x e hx Γ a w hR hf) fun _ _ _ hq => ⟨rfl, hq⟩)
  intro c
  induction c with
  | region id ops d =>
    intro hok f h x e hx Γ a w hR hf
    cases d
    · apply wpS_region
      have := evOpsD_wp (Γ0 := Γ) (w0 := w) hc hcs hx ops.toList 0 Γ f h a w (by simp) (okOps_spec hok) (.refl Γ) (.refl N w) hR hf e
      rw [List.range_eq_range']
      simpa using this
    · exact plain (.region id ops true) hok f h x e hx Γ a w hR hf
  | seq c1 c2 ih1 ih2 =>
    intro hok f h x e hx Γ a w hR hf
    obtain ⟨ok1, ok2⟩ := cond_t (show cond (okCode nt c1) (okCode nt c2) false = true from hok)
    have e : thenX (evCodeD P callR c1 f h) (evCodeD P callR c2) = x := e
    apply wpS_seq
    have key : ∀ y, evCodeD P callR c1 f h = y → y.good → c1.wpS P (Exit.thenS (c2.wpS P (fun e a' cs' w' => cs' = cs ∧ PostX N nt Γ w x e a' w')) (fun e a' cs' w' => cs' = cs ∧ PostX N nt Γ w x e a' w')) a cs w := fun y hy hgy => by
      have h1 := ih1 ok1 f h y hy hgy Γ a w hR hf
      intro b k hb hr
      obtain ⟨e', a', cs', w', ⟨rfl, hq⟩, harr⟩ := h1 b k hb hr
      refine ⟨e', a', cs', w', ?_, harr⟩
      rw [hy] at e
      cases y with
      | fail s => exact absurd rfl (hgy s)
      | norm f' h' =>
        cases e' with
        | normal =>
          obtain ⟨Δ, g1, g2, g3, g4⟩ := hq
          have := ih2 ok2 f' h' x e hx Δ a' w' g2 g3
          intro b k hb hr
          obtain ⟨e2, a2, cs2, w2, ⟨rfl, hq2⟩, harr2⟩ := this b k hb hr
          exact ⟨e2, a2, _, w2, ⟨rfl, hq2.from g1 g4⟩, harr2⟩
        | _ => exact hq.elim
      | exit j f' h' => have e : X.exit j f' h' = x := e
                        subst e; cases e' <;> first | exact hq.elim | exact ⟨rfl, hq⟩
      | ret f' h' => have e : X.ret f' h' = x := e
                     subst e; cases e' <;> first | exact hq.elim | exact ⟨rfl, hq⟩
      | pan v f' h' => have e : X.pan v f' h' = x := e
                       subst e; cases e' <;> first | exact hq.elim | exact ⟨rfl, hq⟩
    refine key _ rfl fun s hs => ?_
    rw [hs] at e
    exact hx s e.symm
  | cond y c1 c2 ih1 ih2 =>
    intro hok f h x e hx Γ a w hR hf
    obtain ⟨ok1, ok2⟩ := cond_t (show _root_.cond (okCode nt c1) (okCode nt c2) false = true from hok)
    obtain ⟨t, hy, e1⟩ := AV.boolK_inv (show (opd y f).boolK X.no _ = x from e) (X.good_ne hx)
    have hv := opd_rel hR hf y
    rw [hy] at hv; simp only [VR] at hv
    refine wpS_cond hv ?_
    cases t
    · exact ih2 ok2 f h x e1 hx Γ a w hR hf
    · exact ih1 ok1 f h x e1 hx Γ a w hR hf
  | skip => intro hok f h x e; exact plain .skip hok f h x e
  | block id c ih => intro hok f h x e; exact plain (.block id c) hok f h x e
  | loop c ih => intro hok f h x e; exact plain (.loop c) hok f h x e
  | rangeFunc => intro _ f h x e hx; exact absurd e.symm (X.good_ne hx)
  | exit id => intro hok f h x e; exact plain (.exit id) hok f h x e
  | scope c ih => intro hok f h x e; exact plain (.scope c) hok f h x e
  | label l => intro hok f h x e; exact plain (.label l) hok f h x e
  | goto l => intro _ f h x e hx; exact absurd e.symm (X.good_ne hx)
  | ret => intro hok f h x e; exact plain .ret hok f h x e
  | refuse s => intro _ f h x e hx; exact absurd e.symm (X.good_ne hx)

/-! the first frame -/
theorem initF_ds : ∀ (l : AV) (k : Nat) (f : F), (initF l k f).ds = f.ds := by
  intro l
  induction l with
  | cn y l ihy ihl => intro k f; exact (ihl (k + 1) (F.set k y f)).trans rfl
  | _ => intro k f; rfl
theorem initF_get : ∀ (l : AV) (vs : List Value) (k : Nat) (f : F), VRs Γ l vs → k + vs.length ≤ 272 → ∀ i,
    (i < k ∨ k + vs.length ≤ i → F.get i (initF l k f) = F.get i f) ∧ (∀ j u, i = k + j → vs[j]? = some u → VR Γ (F.get i (initF l k f)) u) := by
  intro l
  induction l with
  | nl =>
    intro vs k f hv hk i
    simp only [VRs] at hv; subst hv
    exact ⟨fun _ => rfl, fun j u _ hu => by simp at hu⟩
  | cn y l ihy ihl =>
    intro vs k f hv hk i
    simp only [VRs] at hv
    obtain ⟨u, r, rfl, hu, hr⟩ := hv
    simp only [List.length_cons] at hk
    have ih := ihl r (k + 1) (F.set k y f) hr (by omega) i
    have he : initF (.cn y l) k f = initF l (k + 1) (F.set k y f) := rfl
    refine ⟨fun hi => ?_, fun j v hij hv => ?_⟩
    · rw [he, ih.1 (by simp only [List.length_cons] at hi; omega), F.get_set_ne' _ _ (by omega) (by simp only [List.length_cons] at hi; omega)]
    · rw [he]
      cases j with
      | zero =>
        simp at hv; subst hv
        rw [ih.1 (by omega), hij, Nat.add_zero, F.get_set_same]; exact hu
      | succ j => exact ih.2 j v (by omega) (by simpa using hv)
  | _ => intro vs k f hv; simp [VRs] at hv
theorem init_fr {args : AV} {vs : List Value} (hv : VRs Γ args vs) (hl : lenL args ≤ nt) (hn : nt ≤ 272) : FR nt Γ (initF args 0 F.empty) { tmps := vs.toArray ++ Array.replicate (nt - vs.toArray.size) undef, defers := [] } := by
  have hlen : vs.length = lenL args := (lenL_vals args vs hv).symm
  refine ⟨fun i => ?_, ?_, by simp; omega, hn⟩
  · have h0 := initF_get args vs 0 F.empty hv (by omega) i
    by_cases hi : i < vs.length
    · have hu : vs[i]? = some vs[i] := List.getElem?_eq_getElem hi
      have := h0.2 i vs[i] (by omega) hu
      have hget : (vs.toArray ++ Array.replicate (nt - vs.toArray.size) undef).getD i undef = vs[i] := by
        rw [Array.getD_eq_getD_getElem?, Array.getElem?_append_left (by simpa using hi)]; simp [hi]
      rw [hget]; exact this
    · rw [h0.1 (by omega), F.get_empty]
      have hget : (vs.toArray ++ Array.replicate (nt - vs.toArray.size) undef).getD i undef = undef := by
        rw [Array.getD_eq_getD_getElem?, Array.getElem?_append_right (by simp; omega), Array.getElem?_replicate]; split <;> rfl
      rw [hget]; exact VR_un Γ
  · rw [initF_ds]; simp [F.empty, DR]
theorem okFn_inv {fn : Func} (hk : okFn fn = true) : fn.ntmps ≤ 272 ∧ ∃ c, fn.body = some c ∧ okCode fn.ntmps c = true := by
  obtain ⟨h1, h2⟩ := cond_t (show cond (Nat.ble fn.ntmps 272) _ false = true from hk)
  refine ⟨Nat.le_of_ble_eq_true h1, ?_⟩
  cases hb : fn.body with
  | none => rw [hb] at h2; cases h2
  | some c => rw [hb] at h2; exact ⟨c, rfl, h2⟩
end
end Go.Ev

/- Deferred functions while their function panics: recover tells the value, once. -/
namespace Go.Ev
open Go Go.RowKit

section
variable {P : Program} {N : Nat → Prop} {nt : Nat} {Γ Γ0 Δ : Ctx} {h h' : Hp} {w w0 w' : World} {v : AV} {f f' g : F} {a : Act} {o : Oper} {callR : Nat → AV → Hp → R} {r : R} {x : X} {ops : Array Oper} {A A' : List Nat} {listed : Array Bool}

theorem eqBo_eq {a b : Bool} (h : eqBo a b = true) : a = b := by cases a <;> cases b <;> first | rfl | cases h
theorem FR.flag (hf : FR nt Γ f a) : FR nt Γ (F.set 288 .top f) a := by
  refine ⟨fun i => ?_, hf.ds, hf.size, hf.small⟩
  by_cases h1 : dhi 288 = dhi i
  · by_cases h2 : dlo 288 = dlo i
    · have : F.get i (F.set 288 .top f) = .top := by
        unfold F.get F.set
        simp only [selA_eq, selB_eq, updA_eq, updB_eq]
        rw [h1, sel_upd_same, h2, sel_upd_same]
      rw [this]; simp only [VR]
    · have : F.get i (F.set 288 .top f) = F.get i f := by
        unfold F.get F.set
        simp only [selA_eq, selB_eq, updA_eq, updB_eq]
        rw [h1, sel_upd_same, sel_upd_ne _ _ h2]
      rw [this]; exact hf.get i
  · have : F.get i (F.set 288 .top f) = F.get i f := by
      unfold F.get F.set
      simp only [selA_eq, selB_eq, updA_eq, updB_eq]
      rw [sel_upd_ne _ _ h1]
    rw [this]; exact hf.get i
theorem recd_flag : recd (F.set 288 .top f) = true := by
  unfold recd; rw [F.get_set_same]; rfl
theorem keepK_inv {k : F → Hp → X} (e : keepK f k f' h = x) (hx : x.good) : recd f' = recd f ∧ k f' h = x := by
  obtain ⟨h1, e1⟩ := cond_inv (show cond (eqBo (recd f) (recd f')) (k f' h) X.no = x from e) (X.good_ne hx)
  exact ⟨(eqBo_eq h1).symm, e1⟩
/-- whether recover was asked, where a code came to -/
noncomputable def recX : X → Bool
  | .fail _ => false
  | .norm f _ => recd f
  | .exit _ f _ => recd f
  | .ret f _ => recd f
  | .pan _ f _ => recd f
theorem keepX_inv {y : X} (e : keepX f y = x) (hx : x.good) : y = x ∧ recX x = recd f := by
  cases y with
  | fail s => exact absurd e.symm (hx s)
  | norm f' h' => obtain ⟨h1, e1⟩ := cond_inv (show cond (eqBo (recd f) (recd f')) (X.norm f' h') X.no = x from e) (X.good_ne hx)
                  subst e1; exact ⟨rfl, (eqBo_eq h1).symm⟩
  | exit i f' h' => obtain ⟨h1, e1⟩ := cond_inv (show cond (eqBo (recd f) (recd f')) (X.exit i f' h') X.no = x from e) (X.good_ne hx)
                    subst e1; exact ⟨rfl, (eqBo_eq h1).symm⟩
  | ret f' h' => obtain ⟨h1, e1⟩ := cond_inv (show cond (eqBo (recd f) (recd f')) (X.ret f' h') X.no = x from e) (X.good_ne hx)
                 subst e1; exact ⟨rfl, (eqBo_eq h1).symm⟩
  | pan v f' h' => exact absurd e.symm (X.good_ne hx)
/-- the frames below, before and after recover -/
def csF (c₀ : Frame) (cs : List Frame) (val : Value) (b : Bool) : List Frame := { c₀ with mode := .panicking [{ v := val, recovered := b }] } :: cs
theorem recoverD_no {c₀ : Frame} {cs : List Frame} {val : Value} : recoverD (csF c₀ cs val false) = some (val, csF c₀ cs val true) := rfl
theorem recoverD_yes {c₀ : Frame} {cs : List Frame} {val : Value} : recoverD (csF c₀ cs val true) = none := rfl
theorem evOpsP_wp (hc : CallOK P N callR) {c₀ : Frame} {cs : List Frame} {val : Value} (hx : x.good) : ∀ (l : List Oper) (i : Nat) (Γ : Ctx) (f : F) (h : Hp) (a : Act) (w : World), ops.toList.drop i = l → (∀ o ∈ l, okD nt o) → Γ0.Le Γ → VR Γ v val → Below N w0 w → Rel N Γ h w → FR nt Γ f a →
    evOpsP P callR v ops l f h = x → wpOpsS P ops (fun e a' cs' w' => cs' = csF c₀ cs val (recX x) ∧ PostX N nt Γ0 w0 x e a' w') (List.range' i l.length) a (csF c₀ cs val (recd f)) w
  | [], i, Γ, f, h, a, w, hl, hd, hle, hv, hb, hR, hf, e => by
    change X.norm f h = x at e
    subst e
    exact ⟨rfl, Γ, hle, hR, hf, hb⟩
  | o :: l, i, Γ, f, h, a, w, hl, hd, hle, hv, hb, hR, hf, e => by
    have hi : ops[i]? = some o := by
      have := congrArg (fun l => l[0]?) hl
      simpa using this
    have hl' : ops.toList.drop (i + 1) = l := by
      have := congrArg List.tail hl
      simpa using this
    have ih := evOpsP_wp hc (c₀ := c₀) (cs := cs) (val := val) hx l (i + 1)
    have hdo := hd o (by simp)
    have hdl : ∀ o ∈ l, okD nt o := fun o ho => hd o (by simp [ho])
    rw [List.length_cons, List.range'_succ]
    simp only [wpOpsS, hi]
    rcases guardX_inv hf (show guardX ops o.guard f (Bool.rec (motive := fun _ => X) (doO P (noYR callR) o (keepK f (evOpsP P callR v ops l)) f h) (Bool.rec (motive := fun _ => X) (evOpsP P callR v ops l (F.set 288 .top (putD o.dst v f)) h) (keepK f (evOpsP P callR v ops l) (putD o.dst .nili f) h) (recd f)) (isRec o.op)) (keepK f (evOpsP P callR v ops l) (putD o.dst un f) h) = x from e) hx with ⟨hw, e1⟩ | ⟨hw, e1⟩
    · rw [if_pos hw]
      cases hrec : isRec o.op
      · rw [hrec] at e1
        have hwp := doO_wp3 noYR_tup (K := fun a' w' => wpOpsS P ops (fun e a' cs' w' => cs' = csF c₀ cs val (recX x) ∧ PostX N nt Γ0 w0 x e a' w') (List.range' (i + 1) l.length) a' (csF c₀ cs val (recd f)) w') (Q := fun e a' w' => csF c₀ cs val (recd f) = csF c₀ cs val (recX x) ∧ PostX N nt Γ0 w0 x e a' w') (noYR_ok hc) (.refl Γ) (.refl N w) hR hf hdo e1 hx (fun f' h' e2 Δ a' w' g1 g2 g3 g4 => by
          obtain ⟨k1, k2⟩ := keepK_inv e2 hx
          rw [← k1]
          exact ih Δ f' h' a' w' hl' hdl (hle.trans g1) ((VR.mono_both g1 v).1 _ hv) (hb.trans g2) g3 g4 k2) (fun v' h' hxe Δ val' w' g1 g2 g3 g4 g5 => by
          subst hxe
          exact ⟨rfl, Δ, val', rfl, hle.trans g1, g4, g3, g5, hb.trans g2⟩)
        unfold Oper.wp at hwp
        split
        · rename_i w' hrun
          rw [hrun] at hwp
          exact hwp.elim
        · exact hwp
      · rw [hrec] at e1
        rw [isRec_run hrec]
        cases hrc : recd f
        · rw [hrc] at e1
          simp only [recoverD_no]
          have := ih Γ _ h _ w hl' hdl hle hv hb hR (hf.put hdo hv).flag e1
          rw [recd_flag] at this
          exact this
        · rw [hrc] at e1
          simp only [recoverD_yes]
          obtain ⟨k1, k2⟩ := keepK_inv e1 hx
          have := ih Γ _ h _ w hl' hdl hle hv hb hR (hf.put (val := .nilIface) hdo (by simp only [VR])) k2
          rw [k1, hrc] at this
          exact this
    · rw [if_neg (by rw [hw]; decide)]
      obtain ⟨k1, k2⟩ := keepK_inv e1 hx
      have := ih Γ _ h _ w hl' hdl hle hv hb hR (hf.put hdo (VR_un Γ)) k2
      rw [k1] at this
      exact this

theorem evCodeP_wp (hm : P.follows .mixedOrders = true) (hc : CallOK P N callR) {c₀ : Frame} {cs : List Frame} {val : Value} : ∀ (c : Code), okCode nt c = true → ∀ (f : F) (h : Hp) (x : X), evCodeP P callR v c f h = x → x.good → ∀ (Γ : Ctx) (a : Act) (w : World), VR Γ v val → Rel N Γ h w → FR nt Γ f a →
    c.wpS P (fun e a' cs' w' => cs' = csF c₀ cs val (recX x) ∧ PostX N nt Γ w x e a' w') a (csF c₀ cs val (recd f)) w := by
  have plain : ∀ (c : Code), okCode nt c = true → ∀ (f : F) (h : Hp) (x : X), evCode P callR c f h = x → recX x = recd f → x.good → ∀ (Γ : Ctx) (a : Act) (w : World), Rel N Γ h w → FR nt Γ f a →
      c.wpS P (fun e a' cs' w' => cs' = csF c₀ cs val (recX x) ∧ PostX N nt Γ w x e a' w') a (csF c₀ cs val (recd f)) w := fun c hok f h x e hrx hx Γ a w hR hf =>
    wpS_of_wp (wp_mono (evCode_wp hm hc c hok f h x e hx Γ a w hR hf) fun _ _ _ hq => ⟨by rw [hrx], hq⟩)
  have kept : ∀ (c : Code), okCode nt c = true → ∀ (f : F) (h : Hp) (x : X), keepX f (evCode P callR c f h) = x → x.good → ∀ (Γ : Ctx) (a : Act) (w : World), VR Γ v val → Rel N Γ h w → FR nt Γ f a →
      c.wpS P (fun e a' cs' w' => cs' = csF c₀ cs val (recX x) ∧ PostX N nt Γ w x e a' w') a (csF c₀ cs val (recd f)) w := fun c hok f h x e hx Γ a w _ hR hf => by
    obtain ⟨k1, k2⟩ := keepX_inv e hx
    exact plain c hok f h x k1 k2 hx Γ a w hR hf
  intro c
  induction c with
  | region id ops d =>
    intro hok f h x e hx Γ a w hv hR hf
    cases d
    · apply wpS_region
      have := evOpsP_wp (Γ0 := Γ) (w0 := w) (c₀ := c₀) (cs := cs) hc hx ops.toList 0 Γ f h a w (by simp) (okOps_spec hok) (.refl Γ) hv (.refl N w) hR hf e
      rw [List.range_eq_range']
      simpa using this
    · exact kept (.region id ops true) hok f h x e hx Γ a w hv hR hf
  | seq c1 c2 ih1 ih2 =>
    intro hok f h x e hx Γ a w hv hR hf
    obtain ⟨ok1, ok2⟩ := cond_t (show cond (okCode nt c1) (okCode nt c2) false = true from hok)
    have e : thenX (evCodeP P callR v c1 f h) (evCodeP P callR v c2) = x := e
    apply wpS_seq
    have key : ∀ y, evCodeP P callR v c1 f h = y → y.good → c1.wpS P (Exit.thenS (c2.wpS P (fun e a' cs' w' => cs' = csF c₀ cs val (recX x) ∧ PostX N nt Γ w x e a' w')) (fun e a' cs' w' => cs' = csF c₀ cs val (recX x) ∧ PostX N nt Γ w x e a' w')) a (csF c₀ cs val (recd f)) w := fun y hy hgy => by
      have h1 := ih1 ok1 f h y hy hgy Γ a w hv hR hf
      intro b k hb hr
      obtain ⟨e', a', cs', w', ⟨rfl, hq⟩, harr⟩ := h1 b k hb hr
      refine ⟨e', a', _, w', ?_, harr⟩
      rw [hy] at e
      cases y with
      | fail s => exact absurd rfl (hgy s)
      | norm f' h' =>
        cases e' with
        | normal =>
          obtain ⟨Δ, g1, g2, g3, g4⟩ := hq
          have := ih2 ok2 f' h' x e hx Δ a' w' ((VR.mono_both g1 v).1 _ hv) g2 g3
          intro b k hb hr
          obtain ⟨e2, a2, cs2, w2, ⟨rfl, hq2⟩, harr2⟩ := this b k hb hr
          exact ⟨e2, a2, _, w2, ⟨rfl, hq2.from g1 g4⟩, harr2⟩
        | _ => exact hq.elim
      | exit j f' h' => have e : X.exit j f' h' = x := e
                        subst e; cases e' <;> first | exact hq.elim | exact ⟨rfl, hq⟩
      | ret f' h' => have e : X.ret f' h' = x := e
                     subst e; cases e' <;> first | exact hq.elim | exact ⟨rfl, hq⟩
      | pan v' f' h' => have e : X.pan v' f' h' = x := e
                        subst e; cases e' <;> first | exact hq.elim | exact ⟨rfl, hq⟩
    refine key _ rfl fun s hs => ?_
    rw [hs] at e
    exact hx s e.symm
  | cond y c1 c2 ih1 ih2 =>
    intro hok f h x e hx Γ a w hv hR hf
    obtain ⟨ok1, ok2⟩ := cond_t (show _root_.cond (okCode nt c1) (okCode nt c2) false = true from hok)
    obtain ⟨t, hy, e1⟩ := AV.boolK_inv (show (opd y f).boolK X.no _ = x from e) (X.good_ne hx)
    have hvv := opd_rel hR hf y
    rw [hy] at hvv; simp only [VR] at hvv
    refine wpS_cond hvv ?_
    cases t
    · exact ih2 ok2 f h x e1 hx Γ a w hv hR hf
    · exact ih1 ok1 f h x e1 hx Γ a w hv hR hf
  | skip => intro hok f h x e hx Γ a w _; have e : X.norm f h = x := e; exact plain .skip hok f h x e (by rw [← e]; rfl) hx Γ a w
  | block id c ih => intro hok f h x e; exact kept (.block id c) hok f h x e
  | loop c ih => intro hok f h x e; exact kept (.loop c) hok f h x e
  | rangeFunc => intro _ f h x e hx; exact absurd e.symm (X.good_ne hx)
  | exit id => intro hok f h x e hx Γ a w _; have e : X.exit id f h = x := e; exact plain (.exit id) hok f h x e (by rw [← e]; rfl) hx Γ a w
  | scope c ih => intro hok f h x e; exact kept (.scope c) hok f h x e
  | label l => intro hok f h x e hx Γ a w _; have e : X.norm f h = x := e; exact plain (.label l) hok f h x e (by rw [← e]; rfl) hx Γ a w
  | goto l => intro _ f h x e hx; exact absurd e.symm (X.good_ne hx)
  | ret => intro hok f h x e hx Γ a w _; have e : X.ret f h = x := e; exact plain .ret hok f h x e (by rw [← e]; rfl) hx Γ a w
  | refuse s => intro _ f h x e hx; exact absurd e.symm (X.good_ne hx)
end
end Go.Ev

/- A function that holds ranges over functions leaves with marks among its deferred calls. -/
namespace Go.Ev
open Go Go.RowKit

/-- how a frame leaves: deferred calls of functions, and marks whose block holds no call -/
def LeavesM (P : Program) (fn : Func) (tmps : Array Value) (R : Ending → World → Prop) : List Deferred → FrameMode → World → Prop
  | [], u, w => Leaves P fn tmps R [] u w
  | d :: ds, u, w => u ≠ .run ∧ ((∃ r w', d.target = .collected r ∧ (Instr.takeDeferred r).run P w = .ok [] w' ∧ LeavesM P fn tmps R ds u w') ∨
      (∃ fv cap f args, d.target = .fn fv cap ∧ (invoke d.target d.args).run P w = .ok (.enter f args) w ∧
        CallsD P f args u w fun
          | .returned _, u', w' => LeavesM P fn tmps R ds (settle u') w'
          | .panicked chain, u', w' => LeavesM P fn tmps R ds (raised u' chain) w'
          | .outgrown, _, w' => R .outgrown w'))
section
variable {P : Program}
theorem leaves_stepsM {fn : Func} {tmps : Array Value} {R : Ending → World → Prop} : ∀ (ds : List Deferred) (u : FrameMode) (w : World) (fr : Frame)
    (cs : List Frame), fr.mode = u → fr.defers = ds → fr.tmps = tmps → P.funcs[fr.fn]? = some fn → fr.kind = .normal → LeavesM P fn tmps R ds u w →
    ∃ e w' fr', R e w' ∧ Comes P (lone fr cs w) (lone fr' cs w') e ∧ fr'.fn = fr.fn ∧ fr'.leaving P w' e := by
  intro ds
  induction ds with
  | nil => exact fun u w fr cs hu hd ht hf hk h => leaves_steps [] u w fr cs hu hd ht hf hk h
  | cons d ds ih =>
    intro u w fr cs hu hd ht hf hk h
    obtain ⟨hrun, h⟩ := h
    rcases h with ⟨r, w', htar, htake, hrest⟩ | ⟨fv, cap, f, args, htar, hinv, hcall⟩
    · have h1 := step_collected (cs := cs) (hu ▸ hrun) hd htar htake
      obtain ⟨e', w'', fr', hR', hs', hfn', hl'⟩ := ih u w' { fr with defers := [] ++ ds } cs hu rfl ht hf hk hrest
      exact ⟨e', w'', fr', hR', Comes.of_steps (.one h1) hs', hfn', hl'⟩
    · have h1 := step_defer (cs := cs) (hu ▸ hrun) hd htar hinv
      obtain ⟨e, u', w', frX, hR, hsteps, hkX, hgo⟩ := hcall { fr with defers := ds } cs hu
      cases e with
      | returned v =>
        have h2 := step_going_returned (c := { { fr with defers := ds } with mode := u' }) (cs := cs) hkX hgo
        obtain ⟨e', w'', fr', hR', hs', hfn', hl'⟩ := ih (settle u') w' { { { fr with defers := ds } with mode := u' } with mode := settle u' } cs rfl rfl ht hf hk hR
        exact ⟨e', w'', fr', hR', Comes.of_steps (.head h1 (Steps.trans hsteps (.one h2))) hs', hfn', hl'⟩
      | panicked chain =>
        have h2 := step_going_panicked (c := { { fr with defers := ds } with mode := u' }) (cs := cs) hgo
        obtain ⟨e', w'', fr', hR', hs', hfn', hl'⟩ := ih (raised u' chain) w' { { { fr with defers := ds } with mode := u' } with mode := raised u' chain } cs rfl rfl ht hf hk hR
        exact ⟨e', w'', fr', hR', Comes.of_steps (.head h1 (Steps.trans hsteps (.one h2))) hs', hfn', hl'⟩
      | outgrown => exact ⟨.outgrown, w', fr, hR, Outgrown.of_steps (.one h1) hsteps, rfl, trivial⟩
def bodyPostN (P : Program) (fn : Func) (R : Ending → World → Prop) : Exit → Act → World → Prop
  | .normal, a, w | .ret, a, w => LeavesM P fn a.tmps R a.defers .returning w
  | .panic chain, a, w => LeavesM P fn a.tmps R a.defers (.panicking chain) w
  | .outgrown, _, w => R .outgrown w
  | _, _, _ => False
theorem calls_of_wp_marks {f : FuncId} {fn : Func} {c : Code} {args : Array Value} {w : World} {R : Ending → World → Prop}
    (hf : P.funcs[f]? = some fn) (hb : fn.body = some c)
    (h : c.wp P (bodyPostN P fn R) { tmps := args ++ Array.replicate (fn.ntmps - args.size) undef, defers := [] } w) : Calls P f args w R := by
  intro cs
  let b : Frame := { (default : Frame) with fn := f, kind := .normal }
  have henter : Frame.enter P f args .normal =
      b.at { tmps := args ++ Array.replicate (fn.ntmps - args.size) undef, defers := [] } [.code c] := by
    simp [Frame.enter, Frame.at, hf, hb, b]
  obtain ⟨e, a', w', hq, harr⟩ := h b [] cs
  rw [← henter] at harr
  cases e with
  | normal =>
    obtain ⟨e', w'', fr', hR, hs, hfn, hl⟩ := leaves_stepsM a'.defers .returning w' { b.at a' [] with mode := .returning } cs rfl rfl rfl hf rfl hq
    exact ⟨e', w'', fr', hR, Comes.of_steps (Steps.trans harr (.one step_end)) hs, hfn, hl⟩
  | ret =>
    obtain ⟨todo, hs₀⟩ := harr
    obtain ⟨e', w'', fr', hR, hs, hfn, hl⟩ := leaves_stepsM a'.defers .returning w' { b.at a' todo with mode := .returning } cs rfl rfl rfl hf rfl hq
    exact ⟨e', w'', fr', hR, Comes.of_steps hs₀ hs, hfn, hl⟩
  | panic chain =>
    obtain ⟨todo, hs₀⟩ := harr
    obtain ⟨e', w'', fr', hR, hs, hfn, hl⟩ := leaves_stepsM a'.defers (.panicking chain) w' { b.at a' todo with mode := .panicking chain } cs rfl rfl rfl hf rfl hq
    exact ⟨e', w'', fr', hR, Comes.of_steps hs₀ hs, hfn, hl⟩
  | exit id => exact hq.elim
  | goto l => exact hq.elim
  | outgrown => exact ⟨.outgrown, w', b, hq, harr.resolve_left (by simp [b]), rfl, trivial⟩
end
end Go.Ev

/- Functions, whole: a call of a function that was run does what the run told. -/
namespace Go.Ev
open Go Go.RowKit

section
variable {P : Program} {N : Nat → Prop} {nt : Nat} {Γ Γ0 Δ : Ctx} {h h' : Hp} {w w0 w' : World} {v : AV} {f f' g : F} {a : Act} {o : Oper} {callR : Nat → AV → Hp → R} {r : R} {x : X} {ops : Array Oper} {A A' : List Nat} {listed : Array Bool}

/-- a deferred call, of a function that returns -/
theorem callD_calls (hm : P.follows .mixedOrders = true) (hc : CallOK P N callR) {g : Nat} {args : AV} {vs : List Value} (hR : Rel N Γ h w) (hv : VRs Γ args vs) (e : callD P callR g args h = .ok v h') :
    (∃ c fn, P.funcs[g]? = some fn ∧ isNG fn = false ∧ fn.body = some c) ∧ CallsD P g vs.toArray .returning w (fun e u' w' => ∃ val, e = .returned val ∧ u' = .returning ∧ ∃ Δ, Γ.Le Δ ∧ Rel N Δ h' w' ∧ Below N w w') := by
  unfold callD at e
  cases hfn : P.funcs[g]? with
  | none => rw [hfn] at e; exact (no_ok (e := e)).elim
  | some fn =>
    rw [hfn] at e
    have e : cond (isNG fn) .no (evFnD P callR fn args h) = .ok v h' := e
    cases hng : isNG fn
    · rw [hng, cond_false] at e
      obtain ⟨hok, e1⟩ := cond_inv (show cond (okFn fn) _ Ev.R.no = _ from e) ok_ne_no
      obtain ⟨hl, e2⟩ := ble_inv e1 ok_ne_no
      obtain ⟨hn, c, hb, hcode⟩ := okFn_inv hok
      refine ⟨⟨c, fn, rfl, hng, hb⟩, ?_⟩
      rw [hb] at e2
      have e2 : bodyD P fn.results.toList (evCodeD P callR c (initF args 0 F.empty) h) = .ok v h' := e2
      have hfr := init_fr hv hl hn
      refine callsD_of_wpS hfn hb fun c₀ cs hmode => ?_
      have hcs : recoverD (c₀ :: cs) = none := by simp [recoverD, hmode]
      have hgood : (evCodeD P callR c (initF args 0 F.empty) h).good := fun s hs => by
        rw [hs] at e2
        cases e2
      have hwp := evCodeD_wp hm hc hcs c hcode _ h _ rfl hgood Γ _ w hR hfr
      intro b k hbk hro
      obtain ⟨e', a', cs', w', ⟨rfl, hq⟩, harr⟩ := hwp b k hbk hro
      refine ⟨e', a', _, w', ?_, harr⟩
      have hc0 : ({ c₀ with mode := .returning } : Frame) = c₀ := by rw [← hmode]
      have fin : ∀ (f' : F) (h2 : Hp) (Δ : Ctx), Γ.Le Δ → Rel N Δ h2 w' → FR fn.ntmps Δ f' a' → Below N w w' → finD P fn.results.toList f' h2 = .ok v h' →
          a'.defers = [] ∧ ∃ u', c₀ :: cs = { c₀ with mode := u' } :: cs ∧ ∃ v, (results fn a'.tmps).run P w' = .ok v w' ∧ ∃ val, Ending.returned v = .returned val ∧ u' = .returning ∧ ∃ Δ, Γ.Le Δ ∧ Rel N Δ h' w' ∧ Below N w w' := fun f' h2 Δ g1 g2 g3 g4 e3 => by
        obtain ⟨hds, e4⟩ := AV.nlK_inv (show f'.ds.nlK Ev.R.no (resR P fn.results.toList f' h2) = _ from e3) ok_ne_no
        obtain ⟨rfl, val, hrun, hval⟩ := resR_ok g2 g3 e4
        have hd := g3.ds
        rw [hds] at hd
        exact ⟨hd, .returning, by rw [hc0], val, hrun, val, rfl, rfl, Δ, g1, g2, g4⟩
      cases hy : evCodeD P callR c (initF args 0 F.empty) h with
      | fail s => exact absurd hy (hgood s)
      | norm f' h2 =>
        rw [hy] at hq e2
        cases e' with
        | normal => obtain ⟨Δ, g1, g2, g3, g4⟩ := hq; exact fin f' h2 Δ g1 g2 g3 g4 e2
        | _ => exact hq.elim
      | ret f' h2 =>
        rw [hy] at hq e2
        cases e' with
        | ret => obtain ⟨Δ, g1, g2, g3, g4⟩ := hq; exact fin f' h2 Δ g1 g2 g3 g4 e2
        | _ => exact hq.elim
      | exit i f' h2 => rw [hy] at e2; exact (no_ok (e := e2)).elim
      | pan v f' h2 => rw [hy] at e2; exact (no_ok (e := e2)).elim
    · rw [hng] at e; exact (no_ok (e := e)).elim

theorem isDfr_eq {ob : Ob} (h : isDfr ob = true) : ob = .dfr := by cases ob <;> first | rfl | cases h
/-- the deferred calls, then what follows -/
theorem defers_leaves (hm : P.follows .mixedOrders = true) (hc : CallOK P N callR) {fn : Func} {tmps : Array Value} {RR : Ending → World → Prop} : ∀ (ds : AV) (l : List Deferred) (c : Hp → R) (h : Hp) (Γ : Ctx) (w : World), Rel N Γ h w → DR Γ ds l → defersR P callR ds c h = r → r.good →
    (∀ h2 Δ w2, c h2 = r → Γ.Le Δ → Rel N Δ h2 w2 → Below N w w2 → ∃ v, (results fn tmps).run P w2 = .ok v w2 ∧ RR (.returned v) w2) → LeavesM P fn tmps RR l .returning w := by
  intro ds
  induction ds with
  | nl =>
    intro l c h Γ w hR hd e hr hk
    simp only [DR] at hd; subst hd
    exact hk h Γ w e (.refl Γ) hR (.refl N w)
  | cn d ds ihd ihs =>
    intro l c h Γ w hR hd e hr hk
    simp only [DR] at hd
    obtain ⟨y, s, rfl, hd0, h3⟩ := hd
    rcases hd0 with ⟨fn', args, cap, cs, g', rfl, ht, h1, h2, hfr⟩ | ⟨b, bc, rfl, ht, hs⟩
    rotate_left
    · obtain ⟨k1, e1⟩ := cond_inv (show _root_.cond (isDfr (obAt b h)) (wr b (defersR P callR ds c (setOb b .dead h))) Ev.R.no = r from e) (R.good_ne hr)
      obtain ⟨hg, e2⟩ := wr_inv e1 (R.good_ne hr)
      have hob := isDfr_eq k1
      obtain ⟨obj, k2, k3⟩ := hR.live b bc 0 hs
      rw [hob] at k3
      obtain ⟨_, rfl⟩ := k3
      obtain ⟨R4, B4⟩ := hR.turn (obj := .deferred none) (ob := .dead) hs hg (by rw [hob]; exact fun h => by cases h) (fun _ _ _ h => by cases h) trivial (fun t h => by cases h)
      exact ⟨by simp, .inl ⟨bc, _, ht, run_takeDeferred k2, ihs s c _ Γ _ R4 h3 e2 hr fun h5 Θ w5 e5 q1 q2 q3 => hk h5 Θ w5 e5 q1 q2 (B4.trans q3)⟩⟩
    have e : R.rec (motive := fun _ => R) R.fail (fun _ h => defersR P callR ds c h) (fun _ _ => .no) (invokeD P callR fn' cap args h) = r := e
    cases hi : invokeD P callR fn' cap args h with
    | fail s => rw [hi] at e; exact absurd e.symm (hr s)
    | pan _ _ => rw [hi] at e; exact absurd e.symm (R.good_ne hr)
    | ok v h4 =>
      rw [hi] at e
      have e9 : defersR P callR ds c h4 = r := e
      cases fn' with
      | func g =>
        have hfr : g' = .func g := hfr
        subst hfr
        have hi : callD P callR g (appL args cap) h = .ok v h4 := hi
        obtain ⟨⟨cc, fn2, hfn, hng, hb⟩, hcalls⟩ := callD_calls hm hc hR (appL_vals _ _ _ _ h1 h2) hi
        obtain ⟨tgt, yargs⟩ := y
        simp only at ht h1
        subst ht
        refine ⟨by simp, .inr ⟨.func g, cs, g, (yargs.toList ++ cs.toList).toArray, rfl, ?_, hcalls.mono fun e' u' w' hq => ?_⟩⟩
        · have := run_callFunc (P := P) (w := w) (args := (yargs.toList ++ cs.toList).toArray) hfn hng hb
          have hap : yargs ++ cs = (yargs.toList ++ cs.toList).toArray := by apply Array.ext'; simp
          simp only [invoke, hap]; exact this
        · obtain ⟨val, rfl, rfl, Δ, g1, g2, g3⟩ := hq
          show LeavesM P fn tmps RR s (settle .returning) w'
          exact ihs s c h4 Δ w' g2 (h3.mono g1) e9 hr fun h5 Θ w5 e5 k1 k2 k3 => hk h5 Θ w5 e5 (g1.trans k1) k2 (g3.trans k3)
      | _ => exact (no_ok (e := hi)).elim
  | _ => intro l c h Γ w hR hd; simp [DR] at hd

/-- a deferred call, of a function that panics -/
theorem callP_calls (hm : P.follows .mixedOrders = true) (hc : CallOK P N callR) {g : Nat} {args : AV} {vs : List Value} {pv b : AV} {val : Value} (hR : Rel N Γ h w) (hpv : VR Γ pv val) (hv : VRs Γ args vs) (e : callP P callR pv g args h = .ok b h') :
    (∃ c fn, P.funcs[g]? = some fn ∧ isNG fn = false ∧ fn.body = some c) ∧ ∃ t, b = .bool t ∧ CallsD P g vs.toArray (.panicking [{ v := val, recovered := false }]) w (fun e u' w' => ∃ val', e = .returned val' ∧ u' = .panicking [{ v := val, recovered := t }] ∧ ∃ Δ, Γ.Le Δ ∧ Rel N Δ h' w' ∧ Below N w w') := by
  unfold callP at e
  cases hfn : P.funcs[g]? with
  | none => rw [hfn] at e; exact (no_ok (e := e)).elim
  | some fn =>
    rw [hfn] at e
    have e : cond (isNG fn) .no (evFnP P callR pv fn args h) = .ok b h' := e
    cases hng : isNG fn
    · rw [hng, cond_false] at e
      obtain ⟨hok, e1⟩ := cond_inv (show cond (okFn fn) _ Ev.R.no = _ from e) ok_ne_no
      obtain ⟨hl, e2⟩ := ble_inv e1 ok_ne_no
      obtain ⟨hn, c, hb, hcode⟩ := okFn_inv hok
      refine ⟨⟨c, fn, rfl, hng, hb⟩, ?_⟩
      rw [hb] at e2
      have e2 : cond (recd (initF args 0 F.empty)) .no (bodyP P fn.results.toList (evCodeP P callR pv c (initF args 0 F.empty) h)) = .ok b h' := e2
      cases hrc : recd (initF args 0 F.empty)
      rotate_left
      · rw [hrc] at e2; exact (no_ok (e := e2)).elim
      rw [hrc, cond_false] at e2
      have hfr := init_fr hv hl hn
      have hgood : (evCodeP P callR pv c (initF args 0 F.empty) h).good := fun s hs => by
        rw [hs] at e2
        cases e2
      have hwp := fun c₀ cs => evCodeP_wp (c₀ := c₀) (cs := cs) (val := val) hm hc c hcode _ h _ rfl hgood Γ _ w hpv hR hfr
      rw [hrc] at hwp
      have fin : ∀ (f' : F) (h2 : Hp), finP P fn.results.toList f' h2 = .ok b h' → b = .bool (recd f') ∧ f'.ds = .nl ∧ ∃ rv, resR P fn.results.toList f' h2 = .ok rv h' := fun f' h2 e3 => by
        obtain ⟨hds, e4⟩ := AV.nlK_inv (show f'.ds.nlK Ev.R.no (R.rec (motive := fun _ => R) R.fail (fun _ h' => .ok (.bool (recd f')) h') (fun _ _ => .no) (resR P fn.results.toList f' h2)) = _ from e3) ok_ne_no
        cases hre : resR P fn.results.toList f' h2 with
        | fail s => rw [hre] at e4; cases e4
        | pan _ _ => rw [hre] at e4; exact (no_ok (e := e4)).elim
        | ok rv h3 =>
          rw [hre] at e4
          have e4 : Ev.R.ok (.bool (recd f')) h3 = .ok b h' := e4
          cases e4
          exact ⟨rfl, hds, rv, rfl⟩
      have fin2 : ∀ (c₀ : Frame) (cs : List Frame) (f' : F) (h2 : Hp) (a' : Act) (w' : World) (Δ : Ctx), finP P fn.results.toList f' h2 = .ok b h' → Γ.Le Δ → Rel N Δ h2 w' → FR fn.ntmps Δ f' a' → Below N w w' →
          a'.defers = [] ∧ ∃ u', csF c₀ cs val (recd f') = { c₀ with mode := u' } :: cs ∧ ∃ v, (results fn a'.tmps).run P w' = .ok v w' ∧ ∃ val', Ending.returned v = .returned val' ∧ u' = .panicking [{ v := val, recovered := recd f' }] ∧ ∃ Δ, Γ.Le Δ ∧ Rel N Δ h' w' ∧ Below N w w' := fun c₀ cs f' h2 a' w' Δ e3 g1 g2 g3 g4 => by
        obtain ⟨_, hds, rv, hre⟩ := fin f' h2 e3
        obtain ⟨rfl, val2, hrun, hval⟩ := resR_ok g2 g3 hre
        have hd := g3.ds
        rw [hds] at hd
        exact ⟨hd, _, rfl, val2, hrun, val2, rfl, rfl, Δ, g1, g2, g4⟩
      cases hy : evCodeP P callR pv c (initF args 0 F.empty) h with
      | fail s => exact absurd hy (hgood s)
      | norm f' h2 =>
        rw [hy] at hwp e2
        have hb' := (fin f' h2 e2).1
        refine ⟨recd f', hb', callsD_of_wpS hfn hb fun c₀ cs hmode => ?_⟩
        have hc0 : c₀ :: cs = csF c₀ cs val false := by unfold csF; rw [← hmode]
        intro b k hbk hro
        obtain ⟨e', a', cs', w', ⟨rfl, hq⟩, harr⟩ := hwp c₀ cs b k hbk hro
        rw [← hc0] at harr
        refine ⟨e', a', _, w', ?_, harr⟩
        cases e' with
        | normal => obtain ⟨Δ, g1, g2, g3, g4⟩ := hq; exact fin2 c₀ cs f' h2 a' w' Δ e2 g1 g2 g3 g4
        | _ => exact hq.elim
      | ret f' h2 =>
        rw [hy] at hwp e2
        have hb' := (fin f' h2 e2).1
        refine ⟨recd f', hb', callsD_of_wpS hfn hb fun c₀ cs hmode => ?_⟩
        have hc0 : c₀ :: cs = csF c₀ cs val false := by unfold csF; rw [← hmode]
        intro b k hbk hro
        obtain ⟨e', a', cs', w', ⟨rfl, hq⟩, harr⟩ := hwp c₀ cs b k hbk hro
        rw [← hc0] at harr
        refine ⟨e', a', _, w', ?_, harr⟩
        cases e' with
        | ret => obtain ⟨Δ, g1, g2, g3, g4⟩ := hq; exact fin2 c₀ cs f' h2 a' w' Δ e2 g1 g2 g3 g4
        | _ => exact hq.elim
      | exit i f' h2 => rw [hy] at e2; exact (no_ok (e := e2)).elim
      | pan v f' h2 => rw [hy] at e2; exact (no_ok (e := e2)).elim
    · rw [hng] at e; exact (no_ok (e := e)).elim

/-- the results tell a value -/
theorem resR_is (hR : Rel N Γ h w) (hf : FR nt Γ f a) {res : List ResultVar} (e : resR P res f h = r) (hr : r.good) : ∃ v h6, r = .ok v h6 := by
  have hres : ∀ (vs : AV), (∃ v h6, (vs.cnK (Ev.R.ok (.tup vs) h) fun v r => r.nlK (Ev.R.ok (.tup vs) h) (Ev.R.ok v h)) = Ev.R.ok v h6) := fun vs => by
    cases vs with
    | cn y l => cases l <;> exact ⟨_, _, rfl⟩
    | _ => exact ⟨_, _, rfl⟩
  obtain ⟨avs, vs2, e6, _, _⟩ := resL_ok hR hf (R.good_ne hr) res _ e
  obtain ⟨v, h6, e7⟩ := hres avs
  exact ⟨v, h6, e6.symm.trans e7⟩

/-- the deferred calls of a function that panics -/
theorem defersP_leaves (hm : P.follows .mixedOrders = true) (hc : CallOK P N callR) {fn : Func} {pv : AV} {val : Value} (hnt : fn.ntmps = nt) : ∀ (ds : AV) (l : List Deferred) (h : Hp) (Γ : Ctx) (w : World), Rel N Γ h w → VR Γ pv val → FR nt Γ f a → DR Γ ds l → Γ0.Le Γ → Below N w0 w → defersP P callR pv fn.results.toList f ds h = r → r.good →
    LeavesM P fn a.tmps (EndR N Γ0 w0 r) l (.panicking [{ v := val, recovered := false }]) w := by
  intro ds
  induction ds with
  | nl =>
    intro l h Γ w hR hpv hf hd hle hb e hr
    simp only [DR] at hd; subst hd
    have e : Ev.R.pan pv h = r := e
    subst e
    exact ⟨Γ, val, rfl, hle, hpv, hR, hb⟩
  | cn d ds ihd ihs =>
    intro l h Γ w hR hpv hf hd hle hb e hr
    simp only [DR] at hd
    obtain ⟨y, s, rfl, hd0, h3⟩ := hd
    rcases hd0 with ⟨fn', args, cap, cs, g', rfl, ht, h1, h2, hfr⟩ | ⟨b, bc, rfl, ht, hs⟩
    rotate_left
    · exact absurd e.symm (R.good_ne hr)
    have e : R.rec (motive := fun _ => R) R.fail (fun b h => b.boolK .no fun t => Bool.rec (motive := fun _ => R) (defersP P callR pv fn.results.toList f ds h) (defersR P callR ds (fun h => resR P fn.results.toList f h) h) t) (fun _ _ => .no) (invokeP P callR pv fn' cap args h) = r := e
    cases hi : invokeP P callR pv fn' cap args h with
    | fail s => rw [hi] at e; exact absurd e.symm (hr s)
    | pan _ _ => rw [hi] at e; exact absurd e.symm (R.good_ne hr)
    | ok b h4 =>
      rw [hi] at e
      obtain ⟨t, rfl, e9⟩ := AV.boolK_inv (show b.boolK Ev.R.no (fun t => Bool.rec (motive := fun _ => R) (defersP P callR pv fn.results.toList f ds h4) (defersR P callR ds (fun h => resR P fn.results.toList f h) h4) t) = r from e) (R.good_ne hr)
      cases fn' with
      | func g =>
        have hfr : g' = .func g := hfr
        subst hfr
        have hi : callP P callR pv g (appL args cap) h = .ok (.bool t) h4 := hi
        obtain ⟨⟨cc, fn2, hfn, hng, hbd⟩, t', ht', hcalls⟩ := callP_calls hm hc hR hpv (appL_vals _ _ _ _ h1 h2) hi
        cases ht'
        obtain ⟨tgt, yargs⟩ := y
        simp only at ht h1
        subst ht
        refine ⟨by simp, .inr ⟨.func g, cs, g, (yargs.toList ++ cs.toList).toArray, rfl, ?_, hcalls.mono fun e' u' w' hq => ?_⟩⟩
        · have := run_callFunc (P := P) (w := w) (args := (yargs.toList ++ cs.toList).toArray) hfn hng hbd
          have hap : yargs ++ cs = (yargs.toList ++ cs.toList).toArray := by apply Array.ext'; simp
          simp only [invoke, hap]; exact this
        · obtain ⟨val', rfl, rfl, Δ, g1, g2, g3⟩ := hq
          cases t
          · show LeavesM P fn a.tmps (EndR N Γ0 w0 r) s (settle (.panicking [{ v := val, recovered := false }])) w'
            exact ihs s h4 Δ w' g2 ((VR.mono_both g1 pv).1 _ hpv) (hf.mono g1) (h3.mono g1) (hle.trans g1) (hb.trans g3) e9 hr
          · show LeavesM P fn a.tmps (EndR N Γ0 w0 r) s .returning w'
            refine defers_leaves hm hc ds s _ h4 Δ w' g2 (h3.mono g1) e9 hr fun h5 Θ w5 e5 k1 k2 k3 => ?_
            have hf5 := hf.mono (g1.trans k1)
            obtain ⟨v, h6, rfl⟩ := resR_is k2 hf5 e5 hr
            subst hnt
            obtain ⟨rfl, val5, hrun, hval⟩ := resR_ok k2 hf5 e5
            exact ⟨val5, hrun, Θ, (hle.trans g1).trans k1, hval, k2, (hb.trans g3).trans k3⟩
      | _ => exact (no_ok (e := hi)).elim
  | _ => intro l h Γ w hR hpv hf hd; simp [DR] at hd

theorem evFn_calls (hm : P.follows .mixedOrders = true) (hc : CallOK P N callR) {g : Nat} {fn : Func} (hfn : P.funcs[g]? = some fn) {args : AV} {vs : List Value} (hR : Rel N Γ h w) (hv : VRs Γ args vs) (e : evFn P callR fn args h = r) (hr : r.good) :
    Calls P g vs.toArray w (EndR N Γ w r) ∧ ∃ c, fn.body = some c := by
  obtain ⟨hok, e1⟩ := cond_inv (show cond (okFn fn) _ Ev.R.no = r from e) (R.good_ne hr)
  obtain ⟨hl, e2⟩ := ble_inv e1 (R.good_ne hr)
  obtain ⟨hn, c, hb, hcode⟩ := okFn_inv hok
  refine ⟨?_, c, hb⟩
  rw [hb] at e2
  have e2 : bodyR P callR fn.results.toList (evCode P callR c (initF args 0 F.empty) h) = r := e2
  have hfr := init_fr hv hl hn
  have hgood : (evCode P callR c (initF args 0 F.empty) h).good := fun s hs => by
    rw [hs] at e2
    exact hr s e2.symm
  have hwp := evCode_wp hm hc c hcode _ h _ rfl hgood Γ _ w hR hfr
  refine calls_of_wp_marks hfn hb (wp_mono hwp fun e' a' w' hq => ?_)
  have fin : ∀ (f' : F) (h2 : Hp) (Δ : Ctx), Γ.Le Δ → Rel N Δ h2 w' → FR fn.ntmps Δ f' a' → Below N w w' → finR P callR fn.results.toList f' h2 = r → LeavesM P fn a'.tmps (EndR N Γ w r) a'.defers .returning w' := fun f' h2 Δ g1 g2 g3 g4 e3 => by
    refine defers_leaves hm hc f'.ds a'.defers _ h2 Δ w' g2 g3.ds e3 hr fun h5 Θ w5 e5 k1 k2 k3 => ?_
    have : ∃ v h6, r = .ok v h6 := by
      have hres : ∀ (vs : AV), (∃ v h6, (vs.cnK (Ev.R.ok (.tup vs) h5) fun v r => r.nlK (Ev.R.ok (.tup vs) h5) (Ev.R.ok v h5)) = Ev.R.ok v h6) := fun vs => by
        cases vs with
        | cn y l => cases l <;> exact ⟨_, _, rfl⟩
        | _ => exact ⟨_, _, rfl⟩
      obtain ⟨avs, vs2, e6, _, _⟩ := resL_ok k2 (g3.mono k1) (R.good_ne hr) fn.results.toList _ e5
      obtain ⟨v, h6, e7⟩ := hres avs
      exact ⟨v, h6, e6.symm.trans e7⟩
    obtain ⟨v, h6, rfl⟩ := this
    obtain ⟨rfl, val, hrun, hval⟩ := resR_ok k2 (g3.mono k1) e5
    exact ⟨val, hrun, Θ, g1.trans k1, hval, k2, g4.trans k3⟩
  cases hy : evCode P callR c (initF args 0 F.empty) h with
  | fail s => exact absurd hy (hgood s)
  | norm f' h2 =>
    rw [hy] at hq e2
    cases e' with
    | normal => obtain ⟨Δ, g1, g2, g3, g4⟩ := hq; exact fin f' h2 Δ g1 g2 g3 g4 e2
    | _ => exact hq.elim
  | ret f' h2 =>
    rw [hy] at hq e2
    cases e' with
    | ret => obtain ⟨Δ, g1, g2, g3, g4⟩ := hq; exact fin f' h2 Δ g1 g2 g3 g4 e2
    | _ => exact hq.elim
  | exit i f' h2 => rw [hy] at e2; exact absurd e2.symm (R.good_ne hr)
  | pan v f' h2 =>
    rw [hy] at hq e2
    cases e' with
    | panic chain =>
      obtain ⟨Δ, val, hch, g1, g5, g2, g3, g4⟩ := hq
      subst hch
      exact defersP_leaves hm hc rfl f'.ds a'.defers h2 Δ w' g2 g5 g3 g3.ds g1 g4 e2 hr
    | _ => exact hq.elim

/-- a function's run -/
noncomputable def slowR (P : Program) (callR : Nat → AV → Hp → R) (g : Nat) (args : AV) (h : Hp) : R := Option.rec .no (fun fn => cond (isNG fn) .no (evFn P callR fn args h)) P.funcs[g]?
/-- by fuel; what stands for hot functions comes first -/
noncomputable def callN (P : Program) (sums : (Nat → AV → Hp → R) → Nat → AV → Hp → R → R) (n : Nat) : Nat → AV → Hp → R := Nat.rec (motive := fun _ => Nat → AV → Hp → R) (fun _ _ _ => .no)
  (fun _ ih g args h => tupR P ih args h (sums ih g args h (slowR P ih g args h))) n
/-- what stands for hot functions tells the truth -/
def SumsOK (P : Program) (N : Nat → Prop) (sums : (Nat → AV → Hp → R) → Nat → AV → Hp → R → R) : Prop :=
  ∀ callR g args h Γ w vs r, CallOK P N callR → sums callR g args h (slowR P callR g args h) = r → r.good → Rel N Γ h w → VRs Γ args vs → slowR P callR g args h = r ∨ Does P N Γ w (callFunc g vs.toArray) r
theorem callN_ok (hm : P.follows .mixedOrders = true) {sums : (Nat → AV → Hp → R) → Nat → AV → Hp → R → R} (hs : SumsOK P N sums) : ∀ n, CallOK P N (callN P sums n)
  | 0 => ⟨fun g args h Γ w vs r e hr _ _ => absurd e.symm (R.good_ne hr), fun g b c args h Γ w vs r e hr _ _ _ => absurd e.symm (R.good_ne hr)⟩
  | n + 1 => ⟨fun g args h Γ w vs r e hr hR hv => by
    have e : sums (callN P sums n) g args h (slowR P (callN P sums n) g args h) = r := by
      cases args <;> first | exact e | (simp [VRs] at hv)
    rcases hs (callN P sums n) g args h Γ w vs r (callN_ok hm hs n) e hr hR hv with e1 | hd
    · unfold slowR at e1
      cases hfn : P.funcs[g]? with
      | none => rw [hfn] at e1; exact absurd e1.symm (R.good_ne hr)
      | some fn =>
        rw [hfn] at e1
        have e1 : cond (isNG fn) .no (evFn P (callN P sums n) fn args h) = r := e1
        cases hng : isNG fn
        · rw [hng, cond_false] at e1
          obtain ⟨hcalls, c, hb⟩ := evFn_calls hm (callN_ok hm hs n) hfn hR hv e1 hr
          exact .inr (.inr ⟨g, vs.toArray, w, run_callFunc hfn hng hb, hcalls⟩)
        · rw [hng] at e1; exact absurd e1.symm (R.good_ne hr)
    · exact hd,
   fun g b c args h Γ w vs r e hr hR hv hs' => roundR_does hm (callN_ok hm hs n) hR hs' hv (show roundR P (callN P sums n) b args h = r from e) hr⟩
end
end Go.Ev

/- Rules to run the evaluator on values that are not closed. -/
namespace Go.Ev
open Go Go.RowKit

section
variable {P : Program} {callR : Nat → AV → Hp → R} {f : F} {h : Hp} {ops : Array Oper} {k : F → Hp → X}

theorem evCode_seq {a b : Code} : evCode P callR (.seq a b) f h = thenX (evCode P callR a f h) (evCode P callR b) := rfl
theorem evCode_region {id : Nat} : evCode P callR (.region id ops false) f h = evOps P callR ops ops.toList f h := rfl
theorem evCode_cond {c : Operand} {a b : Code} {t : Bool} (hc : opd c f = .bool t) : evCode P callR (.cond c a b) f h = cond t (evCode P callR a f h) (evCode P callR b f h) := by
  show (opd c f).boolK X.no _ = _
  rw [hc]; cases t <;> rfl
theorem evCode_block {id : Nat} {b : Code} : evCode P callR (.block id b) f h = blockX id (evCode P callR b f h) := rfl
theorem evCode_loop {b : Code} : evCode P callR (.loop b) f h = loopN (evCode P callR b) LF f h := rfl
theorem evCode_skip : evCode P callR .skip f h = .norm f h := rfl
theorem evCode_exit {id : Nat} : evCode P callR (.exit id) f h = .exit id f h := rfl
theorem evCode_ret : evCode P callR .ret f h = .ret f h := rfl
theorem thenX_norm {g : F} {j : Hp} {q : F → Hp → X} : thenX (.norm g j) q = q g j := rfl
theorem thenX_exit {i : Nat} {g : F} {j : Hp} {q : F → Hp → X} : thenX (.exit i g j) q = .exit i g j := rfl
theorem thenX_ret {g : F} {j : Hp} {q : F → Hp → X} : thenX (.ret g j) q = .ret g j := rfl
theorem blockX_norm {i : Nat} {g : F} {j : Hp} : blockX i (.norm g j) = .norm g j := rfl
theorem blockX_exit {i : Nat} {g : F} {j : Hp} : blockX i (.exit i g j) = .norm g j := by
  show cond (Nat.beq i i) _ _ = _
  rw [Nat.beq_refl]; rfl
theorem blockX_exit_ne {i m : Nat} {g : F} {j : Hp} (hn : Nat.beq m i = false) : blockX i (.exit m g j) = .exit m g j := by
  show cond (Nat.beq m i) _ _ = _
  rw [hn]; rfl
theorem loopN_succ {b : F → Hp → X} {n : Nat} : loopN b (n + 1) f h = thenX (b f h) (loopN b n) := rfl
theorem evOps_nil : evOps P callR ops [] f h = .norm f h := rfl
theorem evOps_cons {o : Oper} {l : List Oper} : evOps P callR ops (o :: l) f h = stepO P callR ops o (evOps P callR ops l) f h := rfl
theorem step_plain {d : Tmp} {op : Op} {ty : TypeId} {pos : String} {af : Array Edge} (hk : opk op = .plain) {v : AV} {j : Hp} (he : exO P op f h = .ok v j) :
    stepO P callR ops ⟨some d, op, ty, pos, af, none⟩ k f h = k (F.set d v f) j := by
  show doO P callR ⟨some d, op, ty, pos, af, none⟩ k f h = _
  unfold doO
  rw [show opk (Oper.mk (some d) op ty pos af none).op = .plain from hk]
  show bindR pos (some d) f k (exO P op f h) = _
  rw [he]; rfl
theorem step_store {op : Op} {ty : TypeId} {pos : String} {af : Array Edge} (hk : opk op = .plain) {v : AV} {j : Hp} (he : exO P op f h = .ok v j) :
    stepO P callR ops ⟨none, op, ty, pos, af, none⟩ k f h = k f j := by
  show doO P callR ⟨none, op, ty, pos, af, none⟩ k f h = _
  unfold doO
  rw [show opk (Oper.mk none op ty pos af none).op = .plain from hk]
  show bindR pos none f k (exO P op f h) = _
  rw [he]; rfl
theorem step_call {d : Tmp} {c : Call} {ty : TypeId} {pos : String} {af : Array Edge} {v : AV} {j : Hp} (he : exCall P callR c f h = .ok v j) :
    stepO P callR ops ⟨some d, .call c, ty, pos, af, none⟩ k f h = k (F.set d v f) j := by
  show bindP pos (some d) f k (exCall P callR c f h) = _
  rw [he]; rfl
theorem ex_move {x : Operand} : exO P (.move x) f h = .ok (opd x f) h := rfl
theorem ex_assign {x : Operand} : exO P (.assign x) f h = .ok (opd x f) h := rfl

/-! numbers -/
theorem fitN_run {i : IntKind} {s : Nat} {slow : R} (hs : s ≤ kMax i) : fitN i s h slow = .ok (.int i (.ofNat s)) h := by
  unfold fitN; rw [forceN_eq, show Nat.ble s (kMax i) = true from Nat.ble_eq_true_of_le hs]; rfl
theorem bit_run {op : Nat → Nat → Nat} {i : IntKind} {m n : Nat} (h1 : m ≤ kMax i) (h2 : n ≤ kMax i) (h3 : op m n ≤ kMax i) : bitI op i (.ofNat m) (.ofNat n) h = .ok (.int i (.ofNat (op m n))) h := by
  show cond (Nat.ble m (kMax i)) (cond (Nat.ble n (kMax i)) _ _) _ = _
  rw [show Nat.ble m (kMax i) = true from Nat.ble_eq_true_of_le h1, show Nat.ble n (kMax i) = true from Nat.ble_eq_true_of_le h2]
  exact fitN_run h3
theorem sameK_run {c : IntKind → Int → Int → Hp → R} {els : AV → AV → Hp → R} {i : IntKind} {a b : Int} : sameK c els (.int i a) (.int i b) h = c i a b h := by
  show cond (Nat.beq (kN i) (kN i)) _ _ = _
  rw [Nat.beq_refl]; rfl
theorem boolR_run {b : Bool} : boolR b h = .ok (.bool b) h := by cases b <;> rfl
theorem bin_xor {i : IntKind} {t : TypeId} {x y : Operand} {t' : TypeId} {m n : Nat} (hx : opd x f = .int i (.ofNat m)) (hy : opd y f = .int i (.ofNat n)) (h1 : m ≤ kMax i) (h2 : n ≤ kMax i) (h3 : Nat.xor m n ≤ kMax i) :
    exO P (.binOp .xor t x y t') f h = .ok (.int i (.ofNat (Nat.xor m n))) h := by
  show xorV (opd x f) (opd y f) h = _
  rw [hx, hy]; unfold xorV; rw [sameK_run]; exact bit_run h1 h2 h3
theorem bin_and {i : IntKind} {t : TypeId} {x y : Operand} {t' : TypeId} {m n : Nat} (hx : opd x f = .int i (.ofNat m)) (hy : opd y f = .int i (.ofNat n)) (h1 : m ≤ kMax i) (h2 : n ≤ kMax i) (h3 : Nat.land m n ≤ kMax i) :
    exO P (.binOp .and t x y t') f h = .ok (.int i (.ofNat (Nat.land m n))) h := by
  show andV (opd x f) (opd y f) h = _
  rw [hx, hy]; unfold andV; rw [sameK_run]; exact bit_run h1 h2 h3
theorem bin_shr {i j : IntKind} {t : TypeId} {x y : Operand} {t' : TypeId} {m n : Nat} (hx : opd x f = .int i (.ofNat m)) (hy : opd y f = .int j (.ofNat n)) (h1 : n ≤ kBits i) (h3 : Nat.shiftRight m n ≤ kMax i) :
    exO P (.binOp .shr t x y t') f h = .ok (.int i (.ofNat (Nat.shiftRight m n))) h := by
  show shrV (opd x f) (opd y f) h = _
  rw [hx, hy]
  show cond (Nat.ble n (kBits i)) _ _ = _
  rw [show Nat.ble n (kBits i) = true from Nat.ble_eq_true_of_le h1]; exact fitN_run h3
theorem bin_add {i : IntKind} {t : TypeId} {x y : Operand} {t' : TypeId} {m n : Nat} (hx : opd x f = .int i (.ofNat m)) (hy : opd y f = .int i (.ofNat n)) (h3 : m + n ≤ kMax i) :
    exO P (.binOp .add t x y t') f h = .ok (.int i (.ofNat (m + n))) h := by
  show addV (opd x f) (opd y f) h = _
  rw [hx, hy]; unfold addV; rw [sameK_run]; exact fitN_run h3
theorem bin_eql {i : IntKind} {t : TypeId} {x y : Operand} {t' : TypeId} {m n : Nat} (hx : opd x f = .int i (.ofNat m)) (hy : opd y f = .int i (.ofNat n)) :
    exO P (.binOp .eql t x y t') f h = .ok (.bool (Nat.beq m n)) h := by
  show eqV P t _ (opd x f) (opd y f) h = _
  rw [hx, hy]; unfold eqV; rw [sameK_run]; exact boolR_run
theorem bin_lss {i : IntKind} {t : TypeId} {x y : Operand} {t' : TypeId} {m n : Nat} (hx : opd x f = .int i (.ofNat m)) (hy : opd y f = .int i (.ofNat n)) :
    exO P (.binOp .lss t x y t') f h = .ok (.bool (ltN m n)) h := by
  show ltV (opd x f) (opd y f) h = _
  rw [hx, hy]; unfold ltV; rw [sameK_run]; exact boolR_run
theorem conv_int {s d : TypeId} {i j : IntKind} {x : Operand} {m : Nat} (hcv : cvOf P s d = .int j) (hx : opd x f = .int i (.ofNat m)) (h1 : m ≤ kMax j) : exO P (.convert s d x) f h = .ok (.int j (.ofNat m)) h := by
  show exConv P s d x f h = _
  unfold exConv
  rw [hcv]
  show convI j (opd x f) h = _
  rw [hx]
  exact fitN_run h1
theorem idx_slice {t el : TypeId} {x y : Operand} {b o n c es i : Nat} {ex : Bool} {j : IntKind} (ht : tyOf P t = .sl el) (hes : szOf P el = es) (hx : opd x f = .slc b o n c es ex) (hy : opd y f = .int j (.ofNat i)) (hi : i < n) :
    exO P (.indexAddr t x y) f h = .ok (.ptr b (o + i * es)) h := by
  show exIndexAddr P t x y f h = _
  unfold exIndexAddr
  rw [ht]
  show (opd x f).slcK Ev.R.no _ = _
  rw [hx]
  show cond (Nat.beq es (szOf P el)) _ _ = _
  rw [hes, Nat.beq_refl]
  show natI (opd y f) _ = _
  rw [hy]
  show cond (Nat.ble (Nat.succ i) n) _ _ = _
  rw [show Nat.ble (Nat.succ i) n = true from Nat.ble_eq_true_of_le hi, cond_true, forceN_eq]; rfl
theorem load_byte {t : TypeId} {x : Operand} {b o m X : Nat} (ht : agT P t = .one) (hx : opd x f = .ptr b o) (hob : obAt b h = .bytes m X) (ho : o < m) : exO P (.load t x) f h = .ok (.int .u8 (.ofNat (byteAt X o))) h := by
  show exLoad P t x f h = _
  unfold exLoad
  rw [hx, ht]
  show cellK (obAt b h) o Ev.R.no _ = _
  rw [hob]
  show cond (Nat.ble (Nat.succ o) m) _ _ = _
  rw [show Nat.ble (Nat.succ o) m = true from Nat.ble_eq_true_of_le ho, cond_true, forceN_eq]
theorem len_slice {ts : Array TypeId} {y : Operand} {b o n c es : Nat} {ex : Bool} (ht : lenTs P ts = .sl) (hx : opd y f = .slc b o n c es ex) : exCall P callR ⟨.builtin .len, #[y], ts⟩ f h = .ok (.int .i64 (.ofNat n)) h := by
  show noPan (lenR P ts (opd y f) h) = _
  unfold lenR
  rw [ht, hx]; rfl
end
end Go.Ev

/- The sum of bytes, fast. -/
namespace Go.Ev
open Go Go.RowKit Go.Proofs

def cSeq1 : Code → Code
  | .seq a _ => a
  | c => c
def cSeq2 : Code → Code
  | .seq _ b => b
  | c => c
def cBlk : Code → Code
  | .block _ b => b
  | c => c
def cLoop : Code → Code
  | .loop b => b
  | c => c
def cBody (fn : Func) : Code := match fn.body with
  | some c => c
  | none => .skip
section
variable {P : Program} {callR : Nat → AV → Hp → R} {f : F} {h : Hp}
theorem reg1 {id : Nat} {o1 : Oper} : evCode P callR (.region id #[o1] false) f h = stepO P callR #[o1] o1 X.norm f h := rfl
theorem reg2 {id : Nat} {o1 o2 : Oper} : evCode P callR (.region id #[o1, o2] false) f h = stepO P callR #[o1, o2] o1 (stepO P callR #[o1, o2] o2 X.norm) f h := rfl
theorem reg3 {id : Nat} {o1 o2 o3 : Oper} : evCode P callR (.region id #[o1, o2, o3] false) f h = stepO P callR #[o1, o2, o3] o1 (stepO P callR #[o1, o2, o3] o2 (stepO P callR #[o1, o2, o3] o3 X.norm)) f h := rfl
theorem reg4 {id : Nat} {o1 o2 o3 o4 : Oper} : evCode P callR (.region id #[o1, o2, o3, o4] false) f h = stepO P callR #[o1, o2, o3, o4] o1 (stepO P callR #[o1, o2, o3, o4] o2 (stepO P callR #[o1, o2, o3, o4] o3 (stepO P callR #[o1, o2, o3, o4] o4 X.norm))) f h := rfl
theorem reg5 {id : Nat} {o1 o2 o3 o4 o5 : Oper} : evCode P callR (.region id #[o1, o2, o3, o4, o5] false) f h = stepO P callR #[o1, o2, o3, o4, o5] o1 (stepO P callR #[o1, o2, o3, o4, o5] o2 (stepO P callR #[o1, o2, o3, o4, o5] o3 (stepO P callR #[o1, o2, o3, o4, o5] o4 (stepO P callR #[o1, o2, o3, o4, o5] o5 X.norm)))) f h := rfl
theorem opd_tmp {t : Tmp} : opd (.tmp t) f = F.get t f := rfl
theorem opd_int {k : IntKind} {n : Nat} : opd (.const (.int k (n : Int))) f = .int k (.ofNat n) := rfl
theorem get_ne {i j : Nat} {v : AV} (hi : Nat.ble i 271 = true) (hn : Nat.beq i j = false) : F.get j (F.set i v f) = F.get j f :=
  F.get_set_ne' v f (Nat.lt_succ_of_le (Nat.le_of_ble_eq_true hi)) (fun e => by subst e; rw [Nat.beq_refl] at hn; cases hn)
end
noncomputable def crcBit (r : Nat) : Nat := cond (Nat.beq (Nat.land r 1) 1) (Nat.xor (Nat.shiftRight r 1) 3988292384) (Nat.shiftRight r 1)
theorem crcBit_lt {r : Nat} (hr : r < 2 ^ 32) : crcBit r < 2 ^ 32 := by
  unfold crcBit
  have h1 : Nat.shiftRight r 1 < 2 ^ 32 := by show r >>> 1 < _; rw [Nat.shiftRight_eq_div_pow]; omega
  cases Nat.beq (Nat.land r 1) 1
  · exact h1
  · exact Nat.xor_lt_two_pow h1 (by decide)

noncomputable def moreCode : Code := cBody Tryz.f370
noncomputable def moreOut : Code := cLoop (cBlk (cSeq2 (cSeq1 (cSeq2 (cSeq2 moreCode)))))
noncomputable def moreIn : Code := cLoop (cBlk (cSeq2 (cSeq2 (cSeq2 (cBlk (cSeq1 (cSeq2 (cSeq2 moreOut))))))))

/-- one bit -/
theorem bit_step {P : Program} {callR : Nat → AV → Hp → R} {f : F} {h : Hp} {r k : Nat} (h5 : F.get 5 f = .int .u32 (.ofNat r)) (h20 : F.get 20 f = .int .i64 (.ofNat k)) (hk : k < 8) (hr : r < 2 ^ 32) :
    ∃ f', evCode P callR moreIn f h = .norm f' h ∧ F.get 5 f' = .int .u32 (.ofNat (crcBit r)) ∧ F.get 20 f' = .int .i64 (.ofNat (k + 1)) ∧ f'.ds = f.ds ∧ ∀ t, t < 20 → t ≠ 5 → F.get t f' = F.get t f := by
  have hkm : kMax .u32 = 4294967295 := rfl
  have hr1 : r ≤ kMax .u32 := by rw [hkm]; omega
  have hlt : ltN k 8 = true := Nat.ble_eq_true_of_le hk
  have h1 : Nat.land r 1 ≤ 1 := Nat.and_le_right
  have hs : Nat.shiftRight r 1 < 2 ^ 32 := by show r >>> 1 < _; rw [Nat.shiftRight_eq_div_pow]; omega
  have hxs : Nat.xor (Nat.shiftRight r 1) 3988292384 < 2 ^ 32 := Nat.xor_lt_two_pow hs (by decide)
  -- the head
  have m1 : moreIn = .seq (cSeq1 moreIn) (.seq (cSeq1 (cSeq2 moreIn)) (.seq (.block 3 (.seq (cSeq1 (cBlk (cSeq1 (cSeq2 (cSeq2 moreIn))))) (cSeq2 (cBlk (cSeq1 (cSeq2 (cSeq2 moreIn))))))) (cSeq2 (cSeq2 (cSeq2 moreIn))))) := rfl
  rw [m1, evCode_seq]
  show ∃ f', thenX (evCode P callR (.region 7 #[_] false) f h) _ = _ ∧ _
  rw [reg1, step_plain rfl (bin_lss (i := .i64) (x := .tmp 20) (y := .const (.int .i64 8)) (m := k) (n := 8) h20 rfl), thenX_norm, hlt, evCode_seq]
  show ∃ f', thenX (evCode P callR (.cond (.tmp 21) .skip (.exit 2)) _ h) _ = _ ∧ _
  rw [evCode_cond (t := true) (by rw [opd_tmp, F.get_set_same]), cond_true, evCode_skip, thenX_norm, evCode_seq, evCode_block, evCode_seq]
  show ∃ f', thenX (blockX 3 (thenX (evCode P callR (.region 8 #[_, _, _] false) _ h) _)) _ = _ ∧ _
  rw [reg3, step_plain rfl ex_move]
  rw [step_plain rfl (bin_and (i := .u32) (x := .tmp 22) (y := .const (.int .u32 1)) (m := r) (n := 1) (by rw [opd_tmp, F.get_set_same, opd_tmp, get_ne rfl rfl]; exact h5) rfl hr1 (by rw [hkm]; omega) (by rw [hkm]; omega))]
  rw [step_plain rfl (bin_eql (i := .u32) (x := .tmp 23) (y := .const (.int .u32 1)) (m := Nat.land r 1) (n := 1) (by rw [opd_tmp, F.get_set_same]) rfl), thenX_norm]
  show ∃ f', thenX (blockX 3 (evCode P callR (.cond (.tmp 24) (.region 9 #[_, _, _, _] false) (.region 10 #[_, _, _] false)) _ h)) (evCode P callR (.region 11 #[_, _] false)) = _ ∧ _
  rw [evCode_cond (t := Nat.beq (Nat.land r 1) 1) (by rw [opd_tmp, F.get_set_same])]
  have g5 : ∀ (v1 v2 v3 v4 : AV), F.get 5 (F.set 24 v4 (F.set 23 v3 (F.set 22 v2 (F.set 21 v1 f)))) = .int .u32 (.ofNat r) := fun v1 v2 v3 v4 => by
    rw [get_ne rfl rfl, get_ne rfl rfl, get_ne rfl rfl, get_ne rfl rfl]; exact h5
  have keep : ∀ {i t : Nat} {v : AV} {g : F}, i < 272 → 20 < i → t < 20 → F.get t (F.set i v g) = F.get t g := fun hi h1 h2 => F.get_set_ne' _ _ hi (by omega)
  have keep20 : ∀ {i : Nat} {v : AV} {g : F}, i < 272 → 20 ≠ i → F.get 20 (F.set i v g) = F.get 20 g := fun hi h1 => F.get_set_ne' _ _ hi (Ne.symm h1)
  cases hb : Nat.beq (Nat.land r 1) 1
  · rw [cond_false, reg3, step_plain rfl ex_move, step_plain rfl (bin_shr (i := .u32) (j := .u64) (x := .tmp 28) (y := .const (.int .u64 1)) (m := r) (n := 1) (by rw [opd_tmp, F.get_set_same, opd_tmp, g5]) rfl (by decide) (by rw [hkm]; omega)), step_plain rfl ex_assign, blockX_norm, thenX_norm]
    rw [reg2, step_plain rfl (bin_add (i := .i64) (x := .tmp 20) (y := .const (.int .i64 1)) (m := k) (n := 1) (by
      rw [opd_tmp, keep20 (by omega) (by omega), keep20 (by omega) (by omega), keep20 (by omega) (by omega), keep20 (by omega) (by omega), keep20 (by omega) (by omega), keep20 (by omega) (by omega), keep20 (by omega) (by omega)]; exact h20) rfl (by show k + 1 ≤ 9223372036854775807; omega)), step_plain rfl ex_move]
    refine ⟨_, rfl, ?_, ?_, rfl, fun t ht h5t => ?_⟩
    · rw [get_ne rfl rfl, get_ne rfl rfl, F.get_set_same, opd_tmp, F.get_set_same]
      unfold crcBit; rw [hb]; rfl
    · rw [F.get_set_same, opd_tmp, F.get_set_same]
    · rw [F.get_set_ne' _ _ (by omega) (by omega), keep (by omega) (by omega) ht, F.get_set_ne' _ _ (by omega) (Ne.symm h5t), keep (by omega) (by omega) ht, keep (by omega) (by omega) ht, keep (by omega) (by omega) ht, keep (by omega) (by omega) ht, keep (by omega) (by omega) ht, keep (by omega) (by omega) ht]
  · rw [cond_true, reg4, step_plain rfl ex_move, step_plain rfl (bin_shr (i := .u32) (j := .u64) (x := .tmp 25) (y := .const (.int .u64 1)) (m := r) (n := 1) (by rw [opd_tmp, F.get_set_same, opd_tmp, g5]) rfl (by decide) (by rw [hkm]; omega)), step_plain rfl (bin_xor (i := .u32) (x := .tmp 26) (y := .const (.int .u32 3988292384)) (m := Nat.shiftRight r 1) (n := 3988292384) (by rw [opd_tmp, F.get_set_same]) rfl (by rw [hkm]; omega) (by decide) (by rw [hkm]; omega)), step_plain rfl ex_assign, blockX_norm, thenX_norm]
    rw [reg2, step_plain rfl (bin_add (i := .i64) (x := .tmp 20) (y := .const (.int .i64 1)) (m := k) (n := 1) (by
      rw [opd_tmp, keep20 (by omega) (by omega), keep20 (by omega) (by omega), keep20 (by omega) (by omega), keep20 (by omega) (by omega), keep20 (by omega) (by omega), keep20 (by omega) (by omega), keep20 (by omega) (by omega), keep20 (by omega) (by omega)]; exact h20) rfl (by show k + 1 ≤ 9223372036854775807; omega)), step_plain rfl ex_move]
    refine ⟨_, rfl, ?_, ?_, rfl, fun t ht h5t => ?_⟩
    · rw [get_ne rfl rfl, get_ne rfl rfl, F.get_set_same, opd_tmp, F.get_set_same]
      unfold crcBit; rw [hb]; rfl
    · rw [F.get_set_same, opd_tmp, F.get_set_same]
    · rw [F.get_set_ne' _ _ (by omega) (by omega), keep (by omega) (by omega) ht, F.get_set_ne' _ _ (by omega) (Ne.symm h5t), keep (by omega) (by omega) ht, keep (by omega) (by omega) ht, keep (by omega) (by omega) ht, keep (by omega) (by omega) ht, keep (by omega) (by omega) ht, keep (by omega) (by omega) ht, keep (by omega) (by omega) ht]
end Go.Ev

/- The sum of bytes, fast: loops. -/
namespace Go.Ev
open Go Go.RowKit Go.Proofs

noncomputable def crcBits (j : Nat) : Nat → Nat := Nat.rec (motive := fun _ => Nat → Nat) (fun r => r) (fun _ ih r => ih (crcBit r)) j
noncomputable def crc8 (r : Nat) : Nat := crcBits 8 r
theorem crcBits_lt : ∀ (j : Nat) {r : Nat}, r < 2 ^ 32 → crcBits j r < 2 ^ 32
  | 0, r, hr => hr
  | j + 1, r, hr => crcBits_lt j (crcBit_lt hr)
section
variable {P : Program} {callR : Nat → AV → Hp → R} {f : F} {h : Hp}
theorem bit_exit (h20 : F.get 20 f = .int .i64 (.ofNat 8)) : evCode P callR moreIn f h = .exit 2 (F.set 21 (.bool false) f) h := by
  have m1 : moreIn = .seq (cSeq1 moreIn) (.seq (cSeq1 (cSeq2 moreIn)) (cSeq2 (cSeq2 moreIn))) := rfl
  rw [m1, evCode_seq]
  show thenX (evCode P callR (.region 7 #[_] false) f h) _ = _
  rw [reg1, step_plain rfl (bin_lss (i := .i64) (x := .tmp 20) (y := .const (.int .i64 8)) (m := 8) (n := 8) h20 rfl), thenX_norm, evCode_seq]
  show thenX (evCode P callR (.cond (.tmp 21) .skip (.exit 2)) _ h) _ = _
  rw [evCode_cond (t := false) (by rw [opd_tmp, F.get_set_same]; rfl), cond_false, evCode_exit, thenX_exit]
  rfl
theorem bits : ∀ (j k r n : Nat) (f : F), k + j = 8 → j < n → r < 2 ^ 32 → F.get 5 f = .int .u32 (.ofNat r) → F.get 20 f = .int .i64 (.ofNat k) →
    ∃ f', loopN (evCode P callR moreIn) n f h = .exit 2 f' h ∧ F.get 5 f' = .int .u32 (.ofNat (crcBits j r)) ∧ f'.ds = f.ds ∧ ∀ t, t < 20 → t ≠ 5 → F.get t f' = F.get t f
  | 0, k, r, n, f, hkj, hn, hr, h5, h20 => by
    obtain ⟨n, rfl⟩ : ∃ m, n = m + 1 := ⟨n - 1, by omega⟩
    have hk : k = 8 := by omega
    subst hk
    rw [loopN_succ, bit_exit h20, thenX_exit]
    exact ⟨_, rfl, by rw [get_ne rfl rfl]; exact h5, rfl, fun t ht _ => F.get_set_ne' _ _ (by omega) (by omega)⟩
  | j + 1, k, r, n, f, hkj, hn, hr, h5, h20 => by
    obtain ⟨n, rfl⟩ : ∃ m, n = m + 1 := ⟨n - 1, by omega⟩
    obtain ⟨f1, e1, g5, g20, gds, gk⟩ := bit_step (P := P) (callR := callR) (h := h) h5 h20 (by omega) hr
    obtain ⟨f2, e2, k5, kds, kk⟩ := bits j (k + 1) (crcBit r) n f1 (by omega) (by omega) (crcBit_lt hr) g5 g20
    rw [loopN_succ, e1, thenX_norm, e2]
    exact ⟨f2, rfl, k5, kds.trans gds, fun t ht h5t => (kk t ht h5t).trans (gk t ht h5t)⟩

structure MoreT (P : Program) : Prop where
  ty : tyOf P 31 = .sl 5
  sz : szOf P 5 = 1
  ag : agT P 5 = .one
  cv : cvOf P 5 60 = .int .u32
  ln : lenTs P #[31] = .sl
theorem byte_step (T : MoreT P) {b o n c i r m X : Nat} {ex : Bool} (h5 : F.get 5 f = .int .u32 (.ofNat r)) (h10 : F.get 10 f = .slc b o n c 1 ex) (h11 : F.get 11 f = .int .i64 (.ofNat n)) (h12 : F.get 12 f = .int .i64 (.ofNat i)) (hi : i < n) (hn : n ≤ 1000000) (hr : r < 2 ^ 32)
    (hob : obAt b h = .bytes m X) (hm : o + n ≤ m) :
    ∃ f', evCode P callR moreOut f h = .norm f' h ∧ F.get 5 f' = .int .u32 (.ofNat (crc8 (Nat.xor r (byteAt X (o + i))))) ∧ F.get 10 f' = .slc b o n c 1 ex ∧ F.get 11 f' = .int .i64 (.ofNat n) ∧ F.get 12 f' = .int .i64 (.ofNat (i + 1)) ∧ f'.ds = f.ds := by
  have hkm : kMax .u32 = 4294967295 := rfl
  have hbyte : byteAt X (o + i) < 256 := byteAt_lt _ _
  have hx : Nat.xor r (byteAt X (o + i)) < 2 ^ 32 := Nat.xor_lt_two_pow hr (Nat.lt_trans hbyte (by decide))
  have m1 : moreOut = .seq (cSeq1 moreOut) (.seq (cSeq1 (cSeq2 moreOut)) (.seq (.block 1 (.seq (cSeq1 (cBlk (cSeq1 (cSeq2 (cSeq2 moreOut))))) (.seq (cSeq1 (cSeq2 (cBlk (cSeq1 (cSeq2 (cSeq2 moreOut)))))) (.seq (cSeq1 (cSeq2 (cSeq2 (cBlk (cSeq1 (cSeq2 (cSeq2 moreOut))))))) (.block 2 (.loop moreIn)))))) (cSeq2 (cSeq2 (cSeq2 moreOut))))) := rfl
  rw [m1, evCode_seq]
  show ∃ f', thenX (evCode P callR (.region 3 #[_] false) f h) _ = _ ∧ _
  rw [reg1, step_plain rfl (bin_lss (i := .i64) (x := .tmp 12) (y := .tmp 11) (m := i) (n := n) h12 h11), thenX_norm, show ltN i n = true from Nat.ble_eq_true_of_le hi, evCode_seq]
  show ∃ f', thenX (evCode P callR (.cond (.tmp 13) .skip (.exit 0)) _ h) _ = _ ∧ _
  rw [evCode_cond (t := true) (by rw [opd_tmp, F.get_set_same]), cond_true, evCode_skip, thenX_norm, evCode_seq, evCode_block, evCode_seq]
  show ∃ f', thenX (blockX 1 (thenX (evCode P callR (.region 4 #[_, _, _] false) _ h) _)) _ = _ ∧ _
  rw [reg3, step_plain rfl (idx_slice (t := 31) (x := .tmp 10) (y := .tmp 12) (b := b) (o := o) (n := n) (c := c) (es := 1) (ex := ex) (j := .i64) (i := i) T.ty T.sz (by rw [opd_tmp, get_ne rfl rfl]; exact h10) (by rw [opd_tmp, get_ne rfl rfl]; exact h12) hi), Nat.mul_one]
  rw [step_plain rfl (load_byte (t := 5) (x := .tmp 14) (b := b) (o := o + i) (m := m) (X := X) T.ag (by rw [opd_tmp, F.get_set_same]) hob (by omega)), step_plain rfl ex_assign, thenX_norm, evCode_seq]
  show ∃ f', thenX (blockX 1 (thenX (evCode P callR (.region 5 #[_, _, _, _, _] false) _ h) _)) _ = _ ∧ _
  rw [reg5, step_plain rfl ex_move, step_plain rfl ex_move]
  rw [step_plain rfl (conv_int (s := 5) (d := 60) (i := .u8) (j := .u32) (x := .tmp 17) (m := byteAt X (o + i)) T.cv (by rw [opd_tmp, F.get_set_same, opd_tmp, get_ne rfl rfl, F.get_set_same, opd_tmp, F.get_set_same]) (by rw [hkm]; omega))]
  rw [step_plain rfl (bin_xor (i := .u32) (x := .tmp 16) (y := .tmp 18) (m := r) (n := byteAt X (o + i)) (by
    rw [opd_tmp, get_ne rfl rfl, get_ne rfl rfl, F.get_set_same, opd_tmp, get_ne rfl rfl, get_ne rfl rfl, get_ne rfl rfl, get_ne rfl rfl]; exact h5) (by rw [opd_tmp, F.get_set_same]) (by rw [hkm]; omega) (by rw [hkm]; omega) (by rw [hkm]; omega)), step_plain rfl ex_assign, thenX_norm, evCode_seq]
  show ∃ f', thenX (blockX 1 (thenX (evCode P callR (.region 6 #[_] false) _ h) _)) _ = _ ∧ _
  rw [reg1, step_plain rfl ex_move, thenX_norm, evCode_block, evCode_loop]
  generalize hF : (F.set 20 _ (F.set 5 _ (F.set 19 _ (F.set 18 _ (F.set 17 _ (F.set 16 _ (F.set 7 _ (F.set 15 _ (F.set 14 _ (F.set 13 _ f)))))))))) = f1
  have k5 : F.get 5 f1 = .int .u32 (.ofNat (Nat.xor r (byteAt X (o + i)))) := by rw [← hF, get_ne rfl rfl, F.get_set_same, opd_tmp, F.get_set_same]
  have k20 : F.get 20 f1 = .int .i64 (.ofNat 0) := by rw [← hF, F.get_set_same]; rfl
  have kt : ∀ t, t = 10 ∨ t = 11 ∨ t = 12 → F.get t f1 = F.get t f := fun t ht => by
    rcases ht with rfl | rfl | rfl <;> (rw [← hF]; rw [get_ne rfl rfl, get_ne rfl rfl, get_ne rfl rfl, get_ne rfl rfl, get_ne rfl rfl, get_ne rfl rfl, get_ne rfl rfl, get_ne rfl rfl, get_ne rfl rfl, get_ne rfl rfl])
  have kd : f1.ds = f.ds := by rw [← hF]; rfl
  obtain ⟨f2, e2, g5, gds, gk⟩ := bits (P := P) (callR := callR) (h := h) 8 0 _ LF f1 rfl (by unfold LF; omega) hx k5 k20
  rw [e2, blockX_exit, blockX_norm, thenX_norm]
  show ∃ f', evCode P callR (.region 12 #[_, _] false) _ h = _ ∧ _
  have g12 : F.get 12 f2 = .int .i64 (.ofNat i) := by rw [gk 12 (by omega) (by omega), kt 12 (by simp)]; exact h12
  rw [reg2, step_plain rfl (bin_add (i := .i64) (x := .tmp 12) (y := .const (.int .i64 1)) (m := i) (n := 1) g12 rfl (by show i + 1 ≤ 9223372036854775807; omega)), step_plain rfl ex_move]
  refine ⟨_, rfl, ?_, ?_, ?_, ?_, gds.trans kd⟩
  · rw [get_ne rfl rfl, get_ne rfl rfl]; exact g5
  · rw [get_ne rfl rfl, get_ne rfl rfl, gk 10 (by omega) (by omega), kt 10 (by simp)]; exact h10
  · rw [get_ne rfl rfl, get_ne rfl rfl, gk 11 (by omega) (by omega), kt 11 (by simp)]; exact h11
  · rw [F.get_set_same, opd_tmp, F.get_set_same]
end
end Go.Ev

/- The sum of bytes, fast: whole. -/
namespace Go.Ev
open Go Go.RowKit Go.Proofs

/-- the sum of n bytes, the first lowest -/
noncomputable def crcN (n : Nat) : Nat → Nat → Nat := Nat.rec (motive := fun _ => Nat → Nat → Nat) (fun _ r => r) (fun _ ih x r => forceN (crc8 (Nat.xor r (Nat.mod x 256))) fun r => ih (Nat.shiftRight x 8) r) n
theorem crcN_succ {n x r : Nat} : crcN (n + 1) x r = crcN n (Nat.shiftRight x 8) (crc8 (Nat.xor r (Nat.mod x 256))) := forceN_eq _ _
theorem crc8_lt {r : Nat} (hr : r < 2 ^ 32) : crc8 r < 2 ^ 32 := crcBits_lt 8 hr
theorem crcN_lt : ∀ (n x r : Nat), r < 2 ^ 32 → crcN n x r < 2 ^ 32
  | 0, x, r, hr => hr
  | n + 1, x, r, hr => by
    rw [crcN_succ]
    exact crcN_lt n _ _ (crc8_lt (Nat.xor_lt_two_pow hr (Nat.lt_trans (Nat.mod_lt _ (by decide)) (by decide))))
section
variable {P : Program} {callR : Nat → AV → Hp → R} {f : F} {h : Hp}
theorem byte_exit {n : Nat} (h11 : F.get 11 f = .int .i64 (.ofNat n)) (h12 : F.get 12 f = .int .i64 (.ofNat n)) : evCode P callR moreOut f h = .exit 0 (F.set 13 (.bool false) f) h := by
  have m1 : moreOut = .seq (cSeq1 moreOut) (.seq (cSeq1 (cSeq2 moreOut)) (cSeq2 (cSeq2 moreOut))) := rfl
  rw [m1, evCode_seq]
  show thenX (evCode P callR (.region 3 #[_] false) f h) _ = _
  have hlt : ltN n n = false := by
    cases hh : ltN n n
    · rfl
    · exact absurd (Nat.le_of_ble_eq_true hh) (Nat.lt_irrefl n)
  rw [reg1, step_plain rfl (bin_lss (i := .i64) (x := .tmp 12) (y := .tmp 11) (m := n) (n := n) h12 h11), thenX_norm, hlt, evCode_seq]
  show thenX (evCode P callR (.cond (.tmp 13) .skip (.exit 0)) _ h) _ = _
  rw [evCode_cond (t := false) (by rw [opd_tmp, F.get_set_same]), cond_false, evCode_exit, thenX_exit]
theorem byteAt_shift (X o i : Nat) : byteAt X (o + i) = Nat.mod (Nat.shiftRight X (Nat.mul 8 (o + i))) 256 := rfl
theorem bytes_loop (T : MoreT P) {b o n c m X : Nat} {ex : Bool} (hn : n ≤ 1000000 - 2) (hob : obAt b h = .bytes m X) (hm : o + n ≤ m) : ∀ (j i r q : Nat) (f : F), i + j = n → j < q → r < 2 ^ 32 → F.get 5 f = .int .u32 (.ofNat r) → F.get 10 f = .slc b o n c 1 ex → F.get 11 f = .int .i64 (.ofNat n) → F.get 12 f = .int .i64 (.ofNat i) →
    ∃ f', loopN (evCode P callR moreOut) q f h = .exit 0 f' h ∧ F.get 5 f' = .int .u32 (.ofNat (crcN j (Nat.shiftRight X (Nat.mul 8 (o + i))) r)) ∧ f'.ds = f.ds
  | 0, i, r, q, f, hij, hq, hr, h5, h10, h11, h12 => by
    obtain ⟨q, rfl⟩ : ∃ m, q = m + 1 := ⟨q - 1, by omega⟩
    have hi : i = n := by omega
    subst hi
    rw [loopN_succ, byte_exit h11 h12, thenX_exit]
    exact ⟨_, rfl, by rw [get_ne rfl rfl]; exact h5, rfl⟩
  | j + 1, i, r, q, f, hij, hq, hr, h5, h10, h11, h12 => by
    obtain ⟨q, rfl⟩ : ∃ m, q = m + 1 := ⟨q - 1, by omega⟩
    obtain ⟨f1, e1, g5, g10, g11, g12, gds⟩ := byte_step (P := P) (callR := callR) T h5 h10 h11 h12 (by omega) (by omega) hr hob hm
    obtain ⟨f2, e2, k5, kds⟩ := bytes_loop T hn hob hm j (i + 1) _ q f1 (by omega) (by omega) (crc8_lt (Nat.xor_lt_two_pow hr (Nat.lt_trans (byteAt_lt _ _) (by decide)))) g5 g10 g11 g12
    rw [loopN_succ, e1, thenX_norm, e2]
    refine ⟨f2, rfl, ?_, kds.trans gds⟩
    rw [k5, crcN_succ, byteAt_shift]
    have : Nat.shiftRight (Nat.shiftRight X (Nat.mul 8 (o + i))) 8 = Nat.shiftRight X (Nat.mul 8 (o + (i + 1))) := by
      show (X >>> (8 * (o + i))) >>> 8 = X >>> (8 * (o + (i + 1)))
      rw [← Nat.shiftRight_add]; congr 1
    rw [this]
    rfl

theorem more_run (T : MoreT P) {b o n c m X s : Nat} {ex : Bool} (hn : n ≤ 1000000 - 2) (hs : s < 2 ^ 32) (hob : obAt b h = .bytes m X) (hm : o + n ≤ m) :
    evFn P callR Tryz.f370 (.cn (.int .u32 (.ofNat s)) (.cn (.slc b o n c 1 ex) .nl)) h = .ok (.int .u32 (.ofNat (Nat.xor (crcN n (Nat.shiftRight X (Nat.mul 8 o)) (Nat.xor s 4294967295)) 4294967295))) h := by
  have hkm : kMax .u32 = 4294967295 := rfl
  have hok : okFn Tryz.f370 = true := rfl
  have hs2 : Nat.xor s 4294967295 < 2 ^ 32 := Nat.xor_lt_two_pow hs (by decide)
  have hbody : Tryz.f370.body = some moreCode := rfl
  unfold evFn
  rw [hok, cond_true]
  show cond (Nat.ble 2 34) _ _ = _
  rw [show Nat.ble 2 34 = true from rfl, cond_true, hbody]
  show bodyR P callR Tryz.f370.results.toList (evCode P callR moreCode (F.set 1 (.slc b o n c 1 ex) (F.set 0 (.int .u32 (.ofNat s)) F.empty)) h) = _
  have m1 : moreCode = .seq (cSeq1 moreCode) (.seq (cSeq1 (cSeq2 moreCode)) (.seq (.seq (cSeq1 (cSeq1 (cSeq2 (cSeq2 moreCode)))) (.block 0 (.loop moreOut))) (cSeq2 (cSeq2 (cSeq2 moreCode))))) := rfl
  rw [m1, evCode_seq]
  show bodyR P callR _ (thenX (evCode P callR (.region 0 #[_] false) _ h) _) = _
  rw [reg1, step_plain rfl ex_assign, thenX_norm, evCode_seq]
  show bodyR P callR _ (thenX (evCode P callR (.region 1 #[_, _, _] false) _ h) _) = _
  rw [reg3, step_plain rfl ex_move, step_plain rfl (bin_xor (i := .u32) (x := .tmp 8) (y := .const (.int .u32 4294967295)) (m := s) (n := 4294967295) (by rw [opd_tmp, F.get_set_same, opd_tmp, get_ne rfl rfl, get_ne rfl rfl, F.get_set_same]) rfl (by rw [hkm]; omega) (by decide) (by rw [hkm]; omega)), step_plain rfl ex_assign, thenX_norm, evCode_seq, evCode_seq]
  show bodyR P callR _ (thenX (thenX (evCode P callR (.region 2 #[_, _, _] false) _ h) _) _) = _
  rw [reg3, step_plain rfl ex_move, step_call (len_slice (ts := #[31]) (y := .tmp 10) (b := b) (o := o) (n := n) (c := c) (es := 1) (ex := ex) T.ln (by rw [opd_tmp, F.get_set_same, opd_tmp, get_ne rfl rfl, get_ne rfl rfl, get_ne rfl rfl, get_ne rfl rfl, F.get_set_same])), step_plain rfl ex_move, thenX_norm, evCode_block, evCode_loop]
  generalize hF : (F.set 12 _ (F.set 11 _ (F.set 10 _ (F.set 5 _ (F.set 9 _ (F.set 8 _ (F.set 4 _ (F.set 1 _ (F.set 0 _ F.empty))))))))) = f1
  have k5 : F.get 5 f1 = .int .u32 (.ofNat (Nat.xor s 4294967295)) := by rw [← hF, get_ne rfl rfl, get_ne rfl rfl, get_ne rfl rfl, F.get_set_same, opd_tmp, F.get_set_same]
  have k10 : F.get 10 f1 = .slc b o n c 1 ex := by rw [← hF, get_ne rfl rfl, get_ne rfl rfl, F.get_set_same, opd_tmp, get_ne rfl rfl, get_ne rfl rfl, get_ne rfl rfl, get_ne rfl rfl, F.get_set_same]
  have k11 : F.get 11 f1 = .int .i64 (.ofNat n) := by rw [← hF, get_ne rfl rfl, F.get_set_same]
  have k12 : F.get 12 f1 = .int .i64 (.ofNat 0) := by rw [← hF, F.get_set_same]; rfl
  have kd : f1.ds = .nl := by rw [← hF]; rfl
  obtain ⟨f2, e2, g5, gds⟩ := bytes_loop (P := P) (callR := callR) T hn hob hm n 0 _ LF f1 (by omega) (by unfold LF; omega) hs2 k5 k10 k11 k12
  have hlt := crcN_lt n (Nat.shiftRight X (Nat.mul 8 (o + 0))) _ hs2
  rw [e2, blockX_exit, thenX_norm]
  show bodyR P callR _ (thenX (evCode P callR (.region 13 #[_, _, _] false) _ h) (evCode P callR .ret)) = _
  rw [reg3, step_plain rfl ex_move, step_plain rfl (bin_xor (i := .u32) (x := .tmp 32) (y := .const (.int .u32 4294967295)) (m := crcN n (Nat.shiftRight X (Nat.mul 8 (o + 0))) (Nat.xor s 4294967295)) (n := 4294967295) (by rw [opd_tmp, F.get_set_same, opd_tmp]; exact g5) rfl (by rw [hkm]; omega) (by decide) (by
    have := Nat.xor_lt_two_pow hlt (show 4294967295 < 2 ^ 32 by decide)
    rw [hkm]; exact Nat.le_of_lt_succ this)), step_plain rfl ex_assign, thenX_norm, evCode_ret]
  show finR P callR [.tmp 4] _ h = _
  have k4 : ∀ (v1 v2 : AV) (g : F), F.get 4 (F.set 4 (opd (.tmp 33) (F.set 33 v1 g)) (F.set 33 v1 g)) = v1 := fun v1 v2 g => by rw [F.get_set_same, opd_tmp, F.get_set_same]
  generalize hG : F.set 4 _ _ = f3
  have hds : f3.ds = AV.nl := by rw [← hG]; exact gds.trans kd
  have h4 : F.get 4 f3 = .int .u32 (.ofNat (Nat.xor (crcN n (Nat.shiftRight X (Nat.mul 8 (o + 0))) (Nat.xor s 4294967295)) 4294967295)) := by rw [← hG]; exact k4 _ .nl _
  unfold finR
  rw [hds]
  show Ev.R.ok (F.get 4 f3) h = _
  rw [h4]
  rfl
end
/-- the sum: bytes of one block, not too many; else as it was -/
noncomputable def moreR (args : AV) (h : Hp) (els : R) : R := args.cnK els fun s l => l.cnK els fun y l2 => l2.nlK els (s.intK els fun k z => cond (Nat.beq (kN k) 6) (natK z els fun s => cond (Nat.ble s 4294967295) (y.slcK els fun b o n c es ex => cond (Nat.beq es 1) (cond (Nat.ble n 999998)
  (match obAt b h with | .bytes m X => cond (Nat.ble (Nat.add o n) m) (forceN (Nat.xor (crcN n (Nat.shiftRight X (Nat.mul 8 o)) (Nat.xor s 4294967295)) 4294967295) fun v => .ok (.int .u32 (.ofNat v)) h) els | _ => els) els) els) els) els)
theorem moreR_eq {P : Program} {callR : Nat → AV → Hp → R} (T : MoreT P) {args : AV} {h : Hp} {els : R} (hels : els = evFn P callR Tryz.f370 args h) : moreR args h els = els := by
  unfold moreR
  cases args <;> try rfl
  rename_i s l
  show l.cnK els _ = els
  cases l <;> try rfl
  rename_i y l2
  show l2.nlK els _ = els
  cases l2 <;> try rfl
  show s.intK els _ = els
  cases s <;> try rfl
  rename_i k z
  show cond (Nat.beq (kN k) 6) _ els = els
  cases hk : Nat.beq (kN k) 6
  · rfl
  have hk : k = .u32 := by cases k <;> first | rfl | cases hk
  subst hk
  rw [cond_true]
  cases z <;> try rfl
  rename_i s
  show cond (Nat.ble s 4294967295) _ els = els
  cases hs : Nat.ble s 4294967295
  · rfl
  rw [cond_true]
  cases y <;> try rfl
  rename_i b o n c es ex
  show cond (Nat.beq es 1) _ els = els
  cases hes : Nat.beq es 1
  · rfl
  have hes := Nat.eq_of_beq_eq_true hes
  subst hes
  rw [cond_true]
  cases hn : Nat.ble n 999998
  · rfl
  rw [cond_true]
  split
  · rename_i m X hob
    cases hm : Nat.ble (Nat.add o n) m
    · rfl
    rw [cond_true, forceN_eq, hels]
    exact (more_run T (Nat.le_of_ble_eq_true hn) (Nat.lt_succ_of_le (Nat.le_of_ble_eq_true hs)) hob (Nat.le_of_ble_eq_true hm)).symm
  · rfl
end Go.Ev

/- Functions of the library without a body. -/
namespace Go.Ev
open Go Go.RowKit Go.Proofs

section
variable {P : Program} {N : Nat → Prop} {nt : Nat} {Γ : Ctx} {h h' : Hp} {w : World} {v : AV} {r : R}

/-- what a function without a body gives -/
theorem extern_does {g : Nat} {fn : Func} {e : Array Value → Sem Value} (hf : P.funcs[g]? = some fn) (hname : (fn.name == "runtime.NumGoroutine") = false) (hb : fn.body.isNone = true) (hn : Extern.findNext fn = none) (he : Extern.find fn = some e)
    {vs : List Value} (hg : GivesV P N Γ w (e vs.toArray) v h') : Does P N Γ w (callFunc g vs.toArray) (.ok v h') := by
  refine Gives.does (Gives_of_V hg fun val w' hr => ?_)
  rw [run_callFunc_extern hf hname hb hn he, hr]; rfl

def isF64 : FloatKind → Bool
  | .f64 => true
  | _ => false
noncomputable def fbR (args : AV) (h : Hp) : R := args.cnK .no fun y l => l.nlK .no (y.fltK .no fun k b => cond (isF64 k) (okI .u64 (.ofNat b) h) .no)
noncomputable def bfR (args : AV) (h : Hp) : R := args.cnK .no fun y l => l.nlK .no (y.intK .no fun k z => cond (Nat.beq (kN k) 7) (natK z .no fun b => .ok (.flt .f64 b) h) .no)
theorem fbR_ok (hR : Rel N Γ h w) {args : AV} {vs : List Value} (hv : VRs Γ args vs) (e : fbR args h = .ok v h') : GivesV P N Γ w (Extern.MathFloatBits.float64bits vs.toArray) v h' := by
  obtain ⟨y, l, rfl, e1⟩ := AV.cnK_inv (show args.cnK Ev.R.no _ = _ from e) ok_ne_no
  obtain ⟨rfl, e2⟩ := AV.nlK_inv e1 ok_ne_no
  obtain ⟨k, b, rfl, e3⟩ := AV.fltK_inv e2 ok_ne_no
  obtain ⟨hk, e4⟩ := cond_inv e3 ok_ne_no
  obtain ⟨rfl, rfl⟩ := okI_ok e4
  have hk : k = .f64 := by cases k <;> first | rfl | cases hk
  subst hk
  simp only [VRs, VR] at hv
  obtain ⟨u, r, rfl, rfl, rfl⟩ := hv
  exact GivesV.pure hR (val := .int .u64 b) (by rfl) (by simp [VR])
theorem bfR_ok (hR : Rel N Γ h w) {args : AV} {vs : List Value} (hv : VRs Γ args vs) (e : bfR args h = .ok v h') : GivesV P N Γ w (Extern.MathFloatBits.float64frombits vs.toArray) v h' := by
  obtain ⟨y, l, rfl, e1⟩ := AV.cnK_inv (show args.cnK Ev.R.no _ = _ from e) ok_ne_no
  obtain ⟨rfl, e2⟩ := AV.nlK_inv e1 ok_ne_no
  obtain ⟨k, z, rfl, e3⟩ := AV.intK_inv e2 ok_ne_no
  obtain ⟨hk, e4⟩ := cond_inv e3 ok_ne_no
  have hk : k = .u64 := by cases k <;> first | rfl | cases hk
  subst hk
  cases z with
  | negSucc _ => exact (no_ok (e := e4)).elim
  | ofNat b =>
    obtain ⟨rfl, rfl⟩ := ok_inj (show Ev.R.ok _ _ = _ from e4)
    simp only [VRs, VR] at hv
    obtain ⟨u, r, rfl, rfl, rfl⟩ := hv
    exact GivesV.pure hR (val := .float .f64 b) (by rfl) (by simp [VR])

/-! Compare -/
theorem cmp_get (l : List UInt8) (i : Nat) : (⟨l.toArray⟩ : ByteArray)[i]! = l[i]! := by
  by_cases h : i < l.length
  · have h1 : i < (⟨l.toArray⟩ : ByteArray).size := by show i < l.toArray.size; simpa using h
    rw [getElem!_pos _ i h1, getElem!_pos l i h]
    rfl
  · have h1 : ¬ i < (⟨l.toArray⟩ : ByteArray).size := by show ¬ i < l.toArray.size; simpa using h
    rw [getElem!_neg _ i h1, getElem!_neg l i h]
def cmpL (l k : List UInt8) : Int := match (List.range (min l.length k.length)).find? fun i => l[i]! != k[i]! with
  | some i => if l[i]! < k[i]! then -1 else 1
  | none => if l.length < k.length then -1 else if l.length > k.length then 1 else 0
theorem cmp_cmpL (l k : List UInt8) : Extern.BytealgCompare.cmp ⟨l.toArray⟩ ⟨k.toArray⟩ = cmpL l k := by
  have s1 : (⟨l.toArray⟩ : ByteArray).size = l.length := by show l.toArray.size = _; simp
  have s2 : (⟨k.toArray⟩ : ByteArray).size = k.length := by show k.toArray.size = _; simp
  unfold Extern.BytealgCompare.cmp cmpL
  simp only [s1, s2, cmp_get]
  rfl
theorem cmpL_spec : ∀ l k : List UInt8, cmpL l k = if Op.bytesLess l k then -1 else if l = k then 0 else 1
  | [], [] => by rfl
  | [], b :: k => by simp [cmpL, Op.bytesLess]
  | a :: l, [] => by simp [cmpL, Op.bytesLess]
  | a :: l, b :: k => by
    have ih := cmpL_spec l k
    unfold cmpL at ih ⊢
    have hm : min (a :: l).length (b :: k).length = min l.length k.length + 1 := by simp [Nat.succ_min_succ]
    rw [hm, List.range_succ_eq_map, List.find?_cons]
    by_cases hab : a = b
    · subst hab
      have h0 : ((a :: l)[0]! != (a :: k)[0]!) = false := by simp
      rw [h0]
      simp only [List.find?_map]
      have hc : ((fun i => (a :: l)[i]! != (a :: k)[i]!) ∘ Nat.succ) = fun i => l[i]! != k[i]! := by
        funext i; simp
      rw [hc]
      have hl : Op.bytesLess (a :: l) (a :: k) = Op.bytesLess l k := by simp [Op.bytesLess]
      rw [hl]
      have he : (a :: l = a :: k) = (l = k) := by simp
      simp only [he]
      rw [← ih]
      cases (List.range (min l.length k.length)).find? (fun i => l[i]! != k[i]!) with
      | none => simp
      | some i => simp
    · have h0 : ((a :: l)[0]! != (b :: k)[0]!) = true := by simpa using hab
      rw [h0]
      have hne : ¬ (a :: l = b :: k) := by simp [hab]
      rw [if_neg hne]
      simp [Op.bytesLess, hab]

theorem run_loadBytes : ∀ (n : Nat) (l : List UInt8) (d q : Nat) (acc : ByteArray), l.length = n → (∀ j b, l[j]? = some b → w.cell? ⟨d, q + j, none⟩ = some (.int .u8 (b.toNat : Int))) →
    (Extern.Bytes.loadBytes ⟨d, q, none⟩ n acc).run P w = .ok ⟨acc.data ++ l.toArray⟩ w
  | 0, l, d, q, acc, hl, hc => by
    have : l = [] := List.eq_nil_of_length_eq_zero hl
    subst this
    simp [Extern.Bytes.loadBytes]
  | n + 1, l, d, q, acc, hl, hc => by
    cases l with
    | nil => simp at hl
    | cons b l =>
      have h0 := hc 0 b (by simp)
      rw [Nat.add_zero] at h0
      have hload : (load ⟨d, q, none⟩).run P w = .ok (.int .u8 (b.toNat : Int)) w := by simp [h0]
      have ih := run_loadBytes n l d (q + 1) (acc.push b) (by simpa using hl) (fun j c hj => by
        have := hc (j + 1) c (by simpa using hj)
        rw [show q + 1 + j = q + (j + 1) by omega]; exact this)
      unfold Extern.Bytes.loadBytes
      simp only [Sem.run_bind, hload, Result.andThen_ok]
      have hb : (Int.toNat (b.toNat : Int)).toUInt8 = b := by simp
      rw [hb, show (⟨d, q, none⟩ : Addr).add 1 = ⟨d, q + 1, none⟩ from rfl, ih]
      congr 2
      simp [ByteArray.push]
/-- the bytes of a slice -/
noncomputable def slBytes (y : AV) (h : Hp) (c : Nat → Nat → R) : R := isSl y (lenK y .no fun n => firstK h 1 n y fun r => r.packK .no c)
theorem slBytes_ok (hR : Rel N Γ h w) {y : AV} {Y : Value} (hy : VR Γ y Y) {c : Nat → Nat → R} (e : slBytes y h c = r) (hr : r ≠ .no) : ∃ n x, c n x = r ∧ x < 256 ^ n ∧ (Extern.Bytes.bytesOf Y).run P w = .ok (bstr n x) w := by
  have hsl : (∃ base n cap, Y = .slice base n cap ∧ (base = none → n = 0)) ∧ (lenK y .no fun n => firstK h 1 n y fun r => r.packK .no c) = r := by
    cases y with
    | slc b q n c' es ex => simp only [VR] at hy; obtain ⟨d, q', cap, _, hX, _⟩ := hy; exact ⟨⟨_, _, _, hX, (fun hh => by cases hh)⟩, e⟩
    | nils => simp only [VR] at hy; exact ⟨⟨_, _, _, hy, fun _ => rfl⟩, e⟩
    | slx n => simp only [VR] at hy; obtain ⟨d, cap, hX, _⟩ := hy; exact ⟨⟨_, _, _, hX, (fun hh => by cases hh)⟩, e⟩
    | _ => exact absurd e.symm hr
  obtain ⟨⟨base, n, cap, rfl, hb0⟩, e1⟩ := hsl
  obtain ⟨n', e2, hlen, _⟩ := lenK_ok (P := P) (w := w) e1 hr hy
  simp [Builtin.lenOf] at hlen
  subst hlen
  obtain ⟨rs, us, e3, hrs, hl, hrun, hcell⟩ := firstK_ok (P := P) hR hy (.inl ⟨_, _, _, rfl⟩) e2 hr
  obtain ⟨m, x, e4, h1, h2, h3⟩ := Rw.packK_inv hrs e3 hr
  rw [Nat.mul_one] at hl
  have hmn : m = n := by omega
  subst hmn
  refine ⟨m, x, e4, h2, ?_⟩
  have hus := us_bytes h1 h3
  cases base with
  | none =>
    have := hb0 rfl
    subst this
    simp [Extern.Bytes.bytesOf, bstr, bl]; rfl
  | some ad =>
    by_cases hm0 : m = 0
    · subst hm0
      simp [Extern.Bytes.bytesOf, Extern.Bytes.loadBytes, bstr, bl]; rfl
    · cases y with
      | slc b q n' c' es ex =>
        simp only [VR] at hy
        obtain ⟨d, q', cap', hs, hX, _⟩ := hy
        cases hX
        have hc := hcell _ _ _ _ _ _ _ _ rfl hs
        have := run_loadBytes (P := P) (w := w) m (bl m x) d (q' + q) .empty (by rw [bl_length]) (fun j b hj => by
          refine hc j _ ?_
          rw [hus, List.getElem?_map, List.getElem?_map, hj]; rfl)
        show (Extern.Bytes.loadBytes ⟨d, q' + q, none⟩ m .empty).run P w = _
        rw [this]
        have : ByteArray.empty.data ++ (bl m x).toArray = (bl m x).toArray := by show #[] ++ _ = _; simp
        rw [this]; rfl
      | nils => simp only [VR] at hy; cases hy
      | slx n' =>
        exfalso
        -- nothing is known of its cells
        have e2' : firstK h 1 m (.slx n') (fun r => r.packK .no c) = r := e2
        unfold firstK at e2'
        have hb : Nat.beq m 0 = false := by cases hh : Nat.beq m 0; rfl; exact absurd (Nat.eq_of_beq_eq_true hh) hm0
        rw [hb] at e2'
        exact hr e2'.symm
      | top => exact absurd e.symm hr
      | _ => simp [VR] at hy
noncomputable def cmpV (n x m y : Nat) (h : Hp) : R := cond (strLt n x m y) (okI .i64 (.negSucc 0) h) (cond (eqS4 n x m y) (okI .i64 (.ofNat 0) h) (okI .i64 (.ofNat 1) h))
noncomputable def cmpR (args : AV) (h : Hp) : R := args.cnK .no fun y l => l.cnK .no fun z l2 => l2.nlK .no (slBytes y h fun n x => slBytes z h fun m u => cmpV n x m u h)
theorem cmpR_ok (hR : Rel N Γ h w) {args : AV} {vs : List Value} (hv : VRs Γ args vs) (e : cmpR args h = .ok v h') : GivesV P N Γ w (Extern.BytealgCompare.compare vs.toArray) v h' := by
  obtain ⟨y, l, rfl, e1⟩ := AV.cnK_inv (show args.cnK Ev.R.no _ = _ from e) ok_ne_no
  obtain ⟨z, l2, rfl, e2⟩ := AV.cnK_inv e1 ok_ne_no
  obtain ⟨rfl, e3⟩ := AV.nlK_inv e2 ok_ne_no
  simp only [VRs] at hv
  obtain ⟨Y, r1, rfl, hY, Z, r2, rfl, hZ, rfl⟩ := hv
  obtain ⟨n, x, e4, hx, hrun1⟩ := slBytes_ok (P := P) hR hY e3 ok_ne_no
  obtain ⟨m, u, e5, hu, hrun2⟩ := slBytes_ok (P := P) hR hZ e4 ok_ne_no
  have hrun : (Extern.BytealgCompare.compare [Y, Z].toArray).run P w = .ok (goInt (Extern.BytealgCompare.cmp (bstr n x) (bstr m u))) w := by
    show ((do pure (goInt (Extern.BytealgCompare.cmp (← Extern.Bytes.bytesOf Y) (← Extern.Bytes.bytesOf Z)))) : Sem Value).run P w = _
    simp only [Sem.run_bind, hrun1, hrun2, Result.andThen_ok, Sem.run_pure]
  have hcmp : Extern.BytealgCompare.cmp (bstr n x) (bstr m u) = if strLt n x m u then -1 else if eqS4 n x m u then 0 else 1 := by
    show Extern.BytealgCompare.cmp ⟨(bl n x).toArray⟩ ⟨(bl m u).toArray⟩ = _
    rw [cmp_cmpL, cmpL_spec, strLt_eq, eqS4_eq hx hu]
    simp
  have fin : h' = h ∧ v = .int .i64 (Extern.BytealgCompare.cmp (bstr n x) (bstr m u)) := by
    rw [hcmp]
    unfold cmpV at e5
    cases h1 : strLt n x m u
    · rw [h1, cond_false] at e5
      cases h2 : eqS4 n x m u
      · rw [h2, cond_false] at e5; obtain ⟨rfl, rfl⟩ := okI_ok e5; exact ⟨rfl, rfl⟩
      · rw [h2, cond_true] at e5; obtain ⟨rfl, rfl⟩ := okI_ok e5; exact ⟨rfl, rfl⟩
    · rw [h1, cond_true] at e5; obtain ⟨rfl, rfl⟩ := okI_ok e5; exact ⟨rfl, rfl⟩
  obtain ⟨rfl, rfl⟩ := fin
  exact GivesV.pure hR hrun (by simp [VR, goInt])
end
end Go.Ev

/- Keys of a map, sorted. -/
namespace Go.Ev
open Go Go.RowKit Go.Maps

section
variable {P : Program} {N : Nat → Prop} {nt : Nat} {Γ : Ctx} {h h' : Hp} {w w' : World} {v : AV} {r : R}

/-! blocks that others have made -/
noncomputable def Ctx.grow (Γ : Ctx) (w' : World) (hl : Γ.lim ≤ w'.heap.size) : Ctx where
  σ := Γ.σ
  sz := fun c => if c < Γ.lim then Γ.sz c else match w'.heap[c]? with | some (.cells arr _ _) => arr.size | _ => 0
  lim := w'.heap.size
  nb := Γ.nb
  wf := fun b c q hs => Nat.lt_of_lt_of_le (Γ.wf b c q hs) hl
theorem Ctx.le_grow (Γ : Ctx) (hl : Γ.lim ≤ w'.heap.size) : Γ.Le (Γ.grow w' hl) :=
  ⟨fun _ _ h => h, hl, fun c hc => if_pos hc, Nat.le_refl _, fun _ _ h => h⟩
theorem Rel.grown (R : Rel N Γ h w) (hb : Go.RowKit.Below w.heap.size w w') : Rel N (Γ.grow w' (by rw [R.lim]; exact hb.size)) h w' := by
  have hle := Γ.le_grow (w' := w') (by rw [R.lim]; exact hb.size)
  refine ⟨fun b c q hs => ?_, fun c arr el fz hc hcell => ?_, R.bnd, R.sep, R.own, rfl, R.hn, R.gn, R.glob, fun c hc => Nat.lt_of_lt_of_le (R.base c hc) hb.size, R.nb, R.one⟩
  · obtain ⟨obj, h1, h2⟩ := R.live b c q hs
    exact ⟨obj, by rw [hb.block c (R.blockLt hs)]; exact h1, h2.mono hle⟩
  · show arr.size = if c < Γ.lim then _ else _
    by_cases hcl : c < Γ.lim
    · rw [if_pos hcl]
      rw [hb.block c (by rw [← R.lim]; exact hcl)] at hcell
      exact R.szs c arr el fz hcl hcell
    · rw [if_neg hcl, hcell]
/-- a block gets a name -/
theorem Rel.name (R : Rel N Γ h w) {g : Nat} {ob : Ob} {obj : Obj} (hn : h.n < 83521) (hg : g < Γ.lim) (hN : ¬ N g) (hfree : ∀ b q, Γ.σ b ≠ some (g, q)) (hobj : w.heap[g]? = some obj) (hor : OR (Γ.also h.n g 0 hg) 0 obj ob) :
    Rel N (Γ.also h.n g 0 hg) ⟨setT h.n ob h.t, h.n + 1⟩ w := by
  have hle := Γ.le_also (b := h.n) (c := g) (q := 0) hg (R.none_at (Nat.le_refl _)) (Nat.le_of_eq R.nb)
  have hne : ∀ b', b' ≠ h.n → b' < h.n → obAt b' ⟨setT h.n ob h.t, h.n + 1⟩ = obAt b' h := fun b' hb' hlt => by
    rw [obAt_setT_ne _ _ _ hn (by omega) (Ne.symm hb')]; rfl
  have hold : ∀ b' c' q', (Γ.also h.n g 0 hg).σ b' = some (c', q') → (b' = h.n ∧ c' = g ∧ q' = 0) ∨ (b' ≠ h.n ∧ Γ.σ b' = some (c', q')) := by
    intro b' c' q' hs
    change (if b' = h.n then _ else _) = _ at hs
    split at hs
    · rename_i e; cases hs; exact .inl ⟨e, rfl, rfl⟩
    · rename_i e; exact .inr ⟨e, hs⟩
  refine ⟨fun b' c' q' hs => ?_, R.szs, fun b' c' q' hs => ?_, fun b1 b2 c' q1 q2 h1 h2 d1 d2 => ?_, fun b' c' q' hs hG => ?_, R.lim, by show h.n + 1 ≤ _; omega, by have := R.gn; show gN ≤ h.n + 1; omega, fun g hg => hle.σ _ _ (R.glob g hg), R.base, rfl, fun b' c' q' t hs ht => ?_⟩
  · rcases hold _ _ _ hs with ⟨rfl, rfl, rfl⟩ | ⟨e, hs⟩
    · exact ⟨obj, hobj, by rw [obAt_setT_same]; exact hor⟩
    · obtain ⟨obj', ho', hr'⟩ := R.live b' c' q' hs
      exact ⟨obj', ho', by rw [hne b' e (R.bnd _ _ _ hs)]; exact hr'.mono hle⟩
  · show b' < h.n + 1
    rcases hold _ _ _ hs with ⟨rfl, _, _⟩ | ⟨e, hs⟩
    · omega
    · have := R.bnd b' c' q' hs; omega
  · rcases hold _ _ _ h1 with ⟨e1, ec, _⟩ | ⟨e1, s1⟩ <;> rcases hold _ _ _ h2 with ⟨e2, ec2, _⟩ | ⟨e2, s2⟩
    · rw [e1, e2]
    · exfalso; subst ec; exact hfree _ _ s2
    · exfalso; subst ec2; exact hfree _ _ s1
    · rw [hne b1 e1 (R.bnd _ _ _ s1)] at d1
      rw [hne b2 e2 (R.bnd _ _ _ s2)] at d2
      exact R.sep b1 b2 c' q1 q2 s1 s2 d1 d2
  · rcases hold _ _ _ hs with ⟨rfl, rfl, rfl⟩ | ⟨e, hs⟩
    · exact hN
    · exact R.own b' c' q' hs hG
  · rcases hold _ _ _ hs with ⟨rfl, rfl, rfl⟩ | ⟨e, hs⟩
    · rfl
    · rw [hne b' e (R.bnd _ _ _ hs)] at ht; exact R.one b' c' q' t hs ht

/-! the keys, as numbers -/
noncomputable def keyN (v : AV) : Option Nat := v.intK none fun k z => cond (Nat.beq (kN k) 3) (natK z none fun n => cond (Nat.ble n 9223372036854775807) (some n) none) none
noncomputable def keysK {α : Type} (es : List ME) (d : α) (c : List Nat → α) : α := List.rec (motive := fun _ => (List Nat → α) → α) (fun c => c []) (fun e _ ih c => Option.rec d (fun n => ih fun l => c (n :: l)) (keyN e.k)) es c
noncomputable def insN (z : Nat) (l : List Nat) : List Nat := List.rec (motive := fun _ => List Nat) [z] (fun y r ih => cond (Nat.ble z y) (z :: y :: r) (y :: ih)) l
noncomputable def sortN (l : List Nat) : List Nat := List.rec (motive := fun _ => List Nat) [] (fun y _ ih => insN y ih) l
noncomputable def distN (l : List Nat) : Bool := List.rec (motive := fun _ => Bool) true (fun y r ih => cond (memN y r) false ih) l
noncomputable def bornB (clock : Nat) (es : List ME) : Bool := es.all fun e => Nat.ble (Nat.succ e.born) clock
noncomputable def listI (l : List Nat) : AV := List.rec (motive := fun _ => AV) .nl (fun n _ ih => .cn (.int .i64 (.ofNat n)) ih) l
theorem keyN_inv {y : AV} {n : Nat} (hk : keyN y = some n) : y = .int .i64 (.ofNat n) ∧ n ≤ 9223372036854775807 := by
  unfold keyN at hk
  obtain ⟨k, z, rfl, h1⟩ := AV.intK_inv hk (by simp)
  obtain ⟨h2, h3⟩ := cond_inv h1 (by simp)
  have hk : k = .i64 := by cases k <;> first | rfl | cases h2
  subst hk
  cases z with
  | negSucc _ => cases h3
  | ofNat m =>
    obtain ⟨h4, h5⟩ := cond_inv (show cond (Nat.ble m 9223372036854775807) (some m) none = some n from h3) (by simp)
    cases h5
    exact ⟨rfl, Nat.le_of_ble_eq_true h4⟩
theorem keysK_inv {α : Type} {d r : α} (hr : r ≠ d) : ∀ (es : List ME) (c : List Nat → α), keysK es d c = r → ∃ ks, c ks = r ∧ es.map (·.k) = ks.map (fun n => AV.int .i64 (.ofNat n)) ∧ ∀ n ∈ ks, n ≤ 9223372036854775807
  | [], c, e => ⟨[], e, rfl, fun n hn => by cases hn⟩
  | x :: es, c, e => by
    have e : Option.rec d (fun n => keysK es d fun l => c (n :: l)) (keyN x.k) = r := e
    cases hk : keyN x.k with
    | none => rw [hk] at e; exact absurd e.symm hr
    | some n =>
      rw [hk] at e
      obtain ⟨ks, h1, h2, h3⟩ := keysK_inv hr es _ e
      obtain ⟨hx, hn⟩ := keyN_inv hk
      exact ⟨n :: ks, h1, by simp [hx, h2], fun m hm => (List.mem_cons.1 hm).elim (fun hh => hh ▸ hn) (h3 m)⟩
theorem insN_perm (z : Nat) : ∀ l : List Nat, (insN z l).Perm (z :: l)
  | [] => List.Perm.refl _
  | y :: l => by
    show (cond (Nat.ble z y) (z :: y :: l) (y :: insN z l)).Perm _
    cases Nat.ble z y
    · exact ((insN_perm z l).cons y).trans (List.Perm.swap z y l)
    · exact List.Perm.refl _
theorem sortN_perm : ∀ l : List Nat, (sortN l).Perm l
  | [] => List.Perm.refl _
  | y :: l => (insN_perm y (sortN l)).trans ((sortN_perm l).cons y)
theorem insN_sorted (z : Nat) : ∀ l : List Nat, l.Pairwise (· ≤ ·) → (insN z l).Pairwise (· ≤ ·)
  | [], _ => by show [z].Pairwise (· ≤ ·); simp
  | y :: l, hl => by
    show (cond (Nat.ble z y) (z :: y :: l) (y :: insN z l)).Pairwise (· ≤ ·)
    rw [List.pairwise_cons] at hl
    cases hzy : Nat.ble z y
    · rw [cond_false, List.pairwise_cons]
      refine ⟨fun x hx => ?_, insN_sorted z l hl.2⟩
      rcases List.mem_cons.1 ((insN_perm z l).mem_iff.1 hx) with rfl | hx
      · have : ¬ x ≤ y := fun hh => by rw [Nat.ble_eq_true_of_le hh] at hzy; cases hzy
        omega
      · exact hl.1 x hx
    · rw [cond_true, List.pairwise_cons, List.pairwise_cons]
      have hzy := Nat.le_of_ble_eq_true hzy
      exact ⟨fun x hx => (List.mem_cons.1 hx).elim (fun hh => hh ▸ hzy) (fun hx => Nat.le_trans hzy (hl.1 x hx)), hl.1, hl.2⟩
theorem sortN_sorted : ∀ l : List Nat, (sortN l).Pairwise (· ≤ ·)
  | [] => List.Pairwise.nil
  | y :: l => insN_sorted y _ (sortN_sorted l)
theorem distN_nodup : ∀ l : List Nat, distN l = true → l.Nodup
  | [], _ => List.Pairwise.nil
  | y :: l, hd => by
    have hd : cond (memN y l) false (distN l) = true := hd
    cases hm : memN y l
    · rw [hm] at hd
      exact List.nodup_cons.2 ⟨(fun hh => by rw [memN_iff.2 hh] at hm; cases hm), distN_nodup l hd⟩
    · rw [hm] at hd; cases hd
theorem mergeSort_sortN {ss : List Int} {ks : List Nat} (hp : ss.Perm (ks.map Int.ofNat)) : ss.mergeSort (fun x y => decide (x ≤ y)) = (sortN ks).map Int.ofNat := by
  have tr : ∀ a b c : Int, decide (a ≤ b) = true → decide (b ≤ c) = true → decide (a ≤ c) = true := fun a b c h1 h2 => by simp only [decide_eq_true_eq] at *; exact Int.le_trans h1 h2
  have to : ∀ a b : Int, (decide (a ≤ b) || decide (b ≤ a)) = true := fun a b => by simp only [Bool.or_eq_true, decide_eq_true_eq]; exact Int.le_total a b
  refine List.Perm.eq_of_pairwise (le := fun a b => decide (a ≤ b) = true) (fun a b _ _ h1 h2 => ?_) (List.pairwise_mergeSort tr to ss) ?_ (((List.mergeSort_perm ss _).trans hp).trans ((sortN_perm ks).symm.map _))
  · simp only [decide_eq_true_eq] at h1 h2
    exact Int.le_antisymm h1 h2
  · rw [List.pairwise_map]
    exact (sortN_sorted ks).imp fun {a b} hab => by simp only [decide_eq_true_eq]; exact Int.ofNat_le.2 hab
theorem listI_vals (Γ : Ctx) : ∀ l : List Nat, VRs Γ (listI l) (l.map fun n => Value.int .i64 (.ofNat n))
  | [] => by show VRs Γ .nl []; simp only [VRs]
  | n :: l => by
    show VRs Γ (.cn (.int .i64 (.ofNat n)) (listI l)) _
    simp only [VRs, List.map_cons]
    exact ⟨_, _, rfl, by simp only [VR], listI_vals Γ l⟩
end
end Go.Ev

/- Keys of a map, sorted: what stands for it tells the truth. -/
namespace Go.Ev
open Go Go.RowKit Go.Maps

/-- the contract of slices.Sorted at the keys of a map of ints: function gS, the iterator's gI; k: the key's type, t: the slice's element -/
def SortedC (P : Program) (gS gI : Nat) (k t : TypeId) : Prop :=
  P.underlying k = some (.int .i64) ∧ (∀ args w, (callFunc gS args).run P w = .ok (.enter gS args) w) ∧
  ∀ (Bm b nn : Nat) (D0 : DataW Unit) (R : Value → Option (DataW Unit × List MemPlace)) (w : World), Bm < w.heap.size → w.cell? ⟨Bm, 0, none⟩ = some (.map (some b)) → w.ownsMap P k R b nn D0 → Maps.size D0 ≤ maxLen → Maps.size D0 * 8 ≤ 140737488355328 →
    Calls P gS #[.func (.func gI) #[] #[.pointer (some ⟨Bm, 0, none⟩)]] w fun e w' => ∃ (v : Value) (ss : List Int), e = .returned v ∧ ss.Perm (intKeys D0) ∧
      w'.ownsRow w.heap.size t 1 v ss.length ((ss.mergeSort (fun x y => decide (x ≤ y))).map encZ) ∧ (v = .slice none 0 0 ↔ ss = []) ∧ Go.RowKit.Below w.heap.size w w'

noncomputable def sortedL (l : List Nat) (h : Hp) : R := List.rec (motive := fun _ => R) (.ok .nils h) (fun _ _ _ => mkK false (listI l) fun ob => newR ob h fun i h => forceN (lenL (listI l)) fun n => .ok (.slc i 0 n n 1 false) h) l
noncomputable def sortES (es : List ME) (clock : Nat) (h : Hp) : R := cond (Bool.and (Bool.and (bornB clock es) (distN (es.map (·.born)))) (Nat.ble es.length 1000000)) (keysK es .no fun ks => cond (distN ks) (sortedL (sortN ks) h) .no) .no
noncomputable def boxMap (b : Nat) (h : Hp) (c : Nat → R) : R := match obAt b h with
  | .cells 1 t => (ctAt t 0).mapK .no c
  | _ => .no
noncomputable def sortedR (gI : Nat) (args : AV) (h : Hp) : R := args.cnK .no fun f l => l.nlK .no (f.fnK .no fun fn fs cap => cond (eqFnId fn (.func gI)) (fs.nlK .no (cap.cnK .no fun p l2 => l2.nlK .no (p.ptrK .no fun b o => cond (Nat.beq o 0) (boxMap b h fun m => mapK' m h fun es clock => sortES es clock h) .no))) .no)

section
variable {P : Program} {N : Nat → Prop} {nt : Nat} {Γ : Ctx} {h h' : Hp} {w w' : World} {v : AV} {r : R}

theorem insert_perm {H : Type} (x : Lit × DataW H) : ∀ l, (DataW.insert x l).Perm (x :: l)
  | [] => List.Perm.refl _
  | y :: l => by
    unfold DataW.insert
    split
    · exact List.Perm.refl _
    · exact ((insert_perm x l).cons y).trans (List.Perm.swap x y l)
theorem foldr_insert_perm {H : Type} : ∀ l : List (Lit × DataW H), (l.foldr DataW.insert []).Perm l
  | [] => List.Perm.refl _
  | x :: l => (insert_perm x _).trans ((foldr_insert_perm l).cons x)
theorem MEs_keys : ∀ (es : List ME) (ms : List MapEntry) (ks : List Nat), MEs Γ es ms → es.map (·.k) = ks.map (fun n => AV.int .i64 (.ofNat n)) → ms.map (·.key) = ks.map (fun n => Value.int .i64 (.ofNat n))
  | [], ms, ks, hm, hk => by
    simp only [MEs] at hm; subst hm
    cases ks with
    | nil => rfl
    | cons _ _ => cases hk
  | e :: es, ms, ks, hm, hk => by
    simp only [MEs] at hm
    obtain ⟨m, s, rfl, h1, h2, h3, h4⟩ := hm
    cases ks with
    | nil => cases hk
    | cons n ks =>
      simp only [List.map_cons, List.cons.injEq] at hk
      rw [hk.1] at h1; simp only [VR] at h1
      simp only [List.map_cons, h1, MEs_keys es s ks h4 hk.2]
theorem MEs_born : ∀ (es : List ME) (ms : List MapEntry), MEs Γ es ms → ms.map (·.born) = es.map (·.born)
  | [], ms, hm => by simp only [MEs] at hm; subst hm; rfl
  | e :: es, ms, hm => by
    simp only [MEs] at hm
    obtain ⟨m, s, rfl, h1, h2, h3, h4⟩ := hm
    simp only [List.map_cons, h3, MEs_born es s h4]

theorem sortedR_does {gS gI : Nat} {k t : TypeId} (C : SortedC P gS gI k t) (hR : Rel N Γ h w) {args : AV} {vs : List Value} (hv : VRs Γ args vs) (e : sortedR gI args h = .ok v h') : Does P N Γ w (callFunc gS vs.toArray) (.ok v h') := by
  obtain ⟨hk, hent, C⟩ := C
  obtain ⟨f, l, rfl, e1⟩ := AV.cnK_inv (show args.cnK Ev.R.no _ = _ from e) ok_ne_no
  obtain ⟨rfl, e2⟩ := AV.nlK_inv e1 ok_ne_no
  obtain ⟨fn, fs, cap, rfl, e3⟩ := AV.fnK_inv e2 ok_ne_no
  obtain ⟨hfn, e4⟩ := cond_inv e3 ok_ne_no
  have hfn := eqFnId_eq hfn
  subst hfn
  obtain ⟨rfl, e5⟩ := AV.nlK_inv e4 ok_ne_no
  obtain ⟨p, l2, rfl, e6⟩ := AV.cnK_inv e5 ok_ne_no
  obtain ⟨rfl, e7⟩ := AV.nlK_inv e6 ok_ne_no
  obtain ⟨b, o, rfl, e8⟩ := AV.ptrK_inv e7 ok_ne_no
  obtain ⟨rfl, e9⟩ := beq_inv e8 ok_ne_no
  simp only [VRs, VR] at hv
  obtain ⟨F, r0, rfl, ⟨gf, fs, cs, rfl, hfs, hcs, hgf⟩, rfl⟩ := hv
  have hgf : gf = .func gI := hgf
  subst hgf
  obtain ⟨p, r1, hcs2, ⟨c, q, hs, rfl⟩, rfl⟩ := hcs
  have hfs0 : fs = #[] := by apply Array.ext'; simpa using hfs
  have hcs0 : cs = #[.pointer (some ⟨c, q + 0, none⟩)] := by apply Array.ext'; simpa using hcs2
  subst hfs0; subst hcs0
  unfold boxMap at e9
  split at e9
  · rename_i t0 hob
    have hq := hR.one b c q t0 hs hob
    subst hq
    obtain ⟨m, hm, e10⟩ := AV.mapK_inv e9 ok_ne_no
    obtain ⟨es, clock, hom, e11⟩ := mapK'_inv e10 ok_ne_no
    obtain ⟨obj, hobj, hor⟩ := hR.live b c 0 hs
    rw [hob] at hor
    obtain ⟨_, arr0, el0, rfl, hsz0, hcells⟩ := hor
    obtain ⟨u, hu, hvr⟩ := hcells 0 (by omega)
    rw [hm] at hvr; simp only [VR] at hvr
    obtain ⟨mc, hsm, rfl⟩ := hvr
    obtain ⟨_, arr, hbk, hms⟩ := hR.mapAt hsm hom
    have hcell : w.cell? ⟨c, 0, none⟩ = some (.map (some mc)) := by rw [cell?_of w hobj]; simpa using hu
    have hclt : c < w.heap.size := hR.blockLt hs
    -- what is known of the map
    obtain ⟨hchk, e12⟩ := cond_inv (show cond _ _ Ev.R.no = _ from e11) ok_ne_no
    rw [Bool.and_eq_true, Bool.and_eq_true] at hchk
    obtain ⟨ks, e13, hks, hkb⟩ := keysK_inv ok_ne_no es _ e12
    obtain ⟨hdk, e14⟩ := cond_inv e13 ok_ne_no
    have hmlen := hms.length
    have hkeys := MEs_keys es arr.toList ks hms hks
    have hborn := MEs_born es arr.toList hms
    have hkl : ks.length = es.length := by have := congrArg List.length hks; simpa using this.symm
    have hesl : es.length ≤ 1000000 := Nat.le_of_ble_eq_true hchk.2
    let Rd : Value → Option (DataW Unit × List MemPlace) := fun _ => some (.nil, [])
    have hread : ∀ x ∈ arr.toList, ∃ n, n ≤ 9223372036854775807 ∧ x.key = .int .i64 (.ofNat n) ∧ WideElems.rd P k Rd x = some (.int .i64 (.ofNat n), .nil) := fun x hx => by
      have hxk : x.key ∈ arr.toList.map (·.key) := List.mem_map.2 ⟨x, hx, rfl⟩
      rw [hkeys] at hxk
      obtain ⟨n, hn, hxn⟩ := List.mem_map.1 hxk
      refine ⟨n, hkb n hn, hxn.symm, ?_⟩
      have hwf : (Lit.int .i64 (.ofNat n)).wf = true := by
        have := hkb n hn
        simp [Lit.wf, IntKind.min, IntKind.max, IntKind.signed, IntKind.bits]; omega
      have hwf' : (Lit.int .i64 (n : Int)).wf = true := hwf
      simp [WideElems.rd, keyOf, hk, mapKey, ← hxn, hwf', Rd]
    have hfit : WideElems.Fit P k Rd arr clock := by
      refine ⟨?_, ⟨fun x hx => ?_, ?_, ?_⟩, fun x hx => ?_⟩
      · have : arr.size = es.length := by simpa using hmlen
        rw [this]; unfold maxLen; omega
      · have hxb : x.born ∈ arr.toList.map (·.born) := List.mem_map.2 ⟨x, hx, rfl⟩
        rw [hborn] at hxb
        obtain ⟨e0, he0, hb0⟩ := List.mem_map.1 hxb
        have := hchk.1.1
        unfold bornB at this
        rw [List.all_eq_true] at this
        have := Nat.le_of_ble_eq_true (this e0 he0)
        rw [← hb0]; exact this
      · rw [hborn]; exact distN_nodup _ hchk.1.2
      · rw [hkeys]
        exact (distN_nodup _ hdk).map _ fun a b hab hh => hab (by cases hh; rfl)
      · obtain ⟨n, _, _, hrd⟩ := hread x hx; exact ⟨_, hrd⟩
    have hown : w.ownsMap P k Rd mc arr.size (.map ((arr.toList.map (WideElems.rg P k Rd)).foldr DataW.insert [])) := ⟨arr, clock, hbk, hfit, Nat.le_refl _, rfl⟩
    have hperm0 := foldr_insert_perm (arr.toList.map (WideElems.rg P k Rd))
    have hintk : (intKeys (.map ((arr.toList.map (WideElems.rg P k Rd)).foldr DataW.insert []))).Perm (ks.map Int.ofNat) := by
      have h1 : (intKeys (.map ((arr.toList.map (WideElems.rg P k Rd)).foldr DataW.insert []))).Perm ((arr.toList.map (WideElems.rg P k Rd)).map fun p => intOf p.1) := hperm0.map _
      have h2 : ((arr.toList.map (WideElems.rg P k Rd)).map fun p => intOf p.1) = ks.map Int.ofNat := by
        have h3 : ∀ x ∈ arr.toList, encZ (intOf (WideElems.rg P k Rd x).1) = x.key := fun x hx => by
          obtain ⟨n, _, hxk, hrd⟩ := hread x hx
          rw [WideElems.rg_of hrd, hxk]; rfl
        have h4 : (arr.toList.map fun x => encZ (intOf (WideElems.rg P k Rd x).1)) = arr.toList.map (·.key) := List.map_congr_left h3
        have h5 : ((arr.toList.map (WideElems.rg P k Rd)).map fun p => intOf p.1).map encZ = (ks.map Int.ofNat).map encZ := by
          rw [List.map_map, List.map_map, List.map_map]
          show List.map (fun x => encZ (intOf (WideElems.rg P k Rd x).1)) arr.toList = _
          rw [h4, hkeys]; rfl
        exact List.map_inj_right (fun a b hab => encZ_inj hab) |>.1 h5
      exact h1.trans (by rw [h2])
    have hsize : Maps.size (.map ((arr.toList.map (WideElems.rg P k Rd)).foldr DataW.insert []) : DataW Unit) = es.length := by
      have := hperm0.length_eq
      simp only [List.length_map] at this
      show ((arr.toList.map (WideElems.rg P k Rd)).foldr DataW.insert []).length = _
      rw [this, hmlen]
    have hcalls := C c mc arr.size _ Rd w hclt hcell hown (by rw [hsize]; unfold maxLen; omega) (by rw [hsize]; omega)
    refine .inr (.inr ⟨gS, _, w, hent _ w, hcalls.mono fun e' w' hq => ?_⟩)
    obtain ⟨val, ss, rfl, hss, hrow, hnil, hbel⟩ := hq
    have hperm := hss.trans hintk
    have hsorted := mergeSort_sortN hperm
    rw [hsorted] at hrow
    have hR' := hR.grown hbel
    have hle := Γ.le_grow (w' := w') (by rw [hR.lim]; exact hbel.size)
    have hlen : ss.length = ks.length := by have := hperm.length_eq; simpa using this
    cases hsl : sortN ks with
    | nil =>
      rw [hsl] at e14
      obtain ⟨rfl, rfl⟩ := ok_inj (show Ev.R.ok _ _ = _ from e14)
      have hks0 : ks = [] := by have := (sortN_perm ks).length_eq; rw [hsl] at this; exact List.eq_nil_of_length_eq_zero this.symm
      have hss0 : ss = [] := List.eq_nil_of_length_eq_zero (by rw [hlen, hks0]; rfl)
      have := hnil.2 hss0
      subst this
      exact ⟨_, hle, by simp [VR], hR', Below.of hbel hR.base⟩
    | cons z zs =>
      have e14 : mkK false (listI (sortN ks)) (fun ob => newR ob h fun i h => forceN (lenL (listI (sortN ks))) fun n => .ok (.slc i 0 n n 1 false) h) = .ok v h' := by
        rw [hsl] at e14 ⊢; exact e14
      obtain ⟨ob, e15, hob2⟩ := mkK_inv e14 ok_ne_no
      obtain ⟨hn, e16⟩ := newR_inv e15 ok_ne_no
      rw [forceN_eq] at e16
      obtain ⟨rfl, rfl⟩ := ok_inj e16
      have hll : lenL (listI (sortN ks)) = ks.length := by
        rw [lenL_vals _ _ (listI_vals Γ (sortN ks))]; simp [(sortN_perm ks).length_eq]
      have hkpos : ks.length ≠ 0 := by have := (sortN_perm ks).length_eq; rw [hsl] at this; simp at this; omega
      rcases hrow.2 with ⟨_, h0⟩ | ⟨g, cp, cur, rfl, hge, hcur, hncp, hcpm, hcsz, htake⟩
      · exact absurd h0 (by omega)
      · have hg : g < (Γ.grow w' (by rw [hR.lim]; exact hbel.size)).lim := (Array.getElem?_eq_some_iff.1 hcur).1
        have hle2 := (Γ.grow w' (by rw [hR.lim]; exact hbel.size)).le_also (b := h.n) (c := g) (q := 0) hg (hR'.none_at (Nat.le_refl _)) (Nat.le_of_eq hR'.nb)
        have hvals := listI_vals ((Γ.grow w' (by rw [hR.lim]; exact hbel.size)).also h.n g 0 hg) (sortN ks)
        have hObF := hob2 _ _ hvals t
        have hmapeq : (List.map encZ (List.map Int.ofNat (sortN ks))) = (sortN ks).map fun n => Value.int .i64 (.ofNat n) := by rw [List.map_map]; rfl
        rw [hmapeq, Nat.mul_one] at htake
        have hslen : (sortN ks).length = ss.length := by rw [(sortN_perm ks).length_eq, hlen]
        have hor2 : OR ((Γ.grow w' (by rw [hR.lim]; exact hbel.size)).also h.n g 0 hg) 0 (.cells cur t (0, 0)) ob := by
          have := OR_shift (Q := 0) (arr := cur) (L := (sortN ks).map fun n => Value.int .i64 (.ofNat n)) (el := t) (el' := t) (fz := (0, 0)) hObF (fun i hi => by
            rw [Nat.zero_add, ← htake, List.getElem?_take_of_lt (by simpa [hslen] using hi)]; simp) (by
            have h1 : ss.length ≤ cur.size := by rw [hcsz, Nat.mul_one]; exact hncp
            simp [hslen]; omega) (.inl rfl)
          exact this
        have hRn := hR'.name hn hg (fun hN => by have := hR.base _ hN; omega) (fun b' q' hs' => by
          have := Γ.wf b' g q' hs'
          rw [hR.lim] at this; omega) hcur hor2
        refine ⟨_, hle.trans hle2, ?_, hRn, Below.of hbel hR.base⟩
        simp only [VR]
        refine ⟨g, 0, cp, (show (if h.n = h.n then some (g, 0) else _) = _ from if_pos rfl), by rw [hll, hlen], by rw [hll]; omega, (fun hh => by cases hh), fun _ => ⟨by rw [hll]; omega, ?_⟩⟩
        show 0 + 0 + cp * 1 ≤ if g < Γ.lim then _ else _
        rw [if_neg (by rw [hR.lim]; omega), hcur]
        simp [hcsz]
  · exact (no_ok (e := e9)).elim
end
end Go.Ev

/- Keys of a map that are strings, sorted: what stands for it tells the truth. -/
namespace Go.Ev
open Go Go.RowKit Go.Maps
open Go.Proofs (encStr)

/-- the contract of slices.Sorted at the keys of a map of strings: function gS, the iterator's gI; k: the key's type, t: the slice's element -/
def SortedS (P : Program) (gS gI : Nat) (k t : TypeId) : Prop :=
  P.underlying k = some .string ∧ (∀ args w, (callFunc gS args).run P w = .ok (.enter gS args) w) ∧
  ∀ (Bm b nn : Nat) (D0 : DataW Unit) (R : Value → Option (DataW Unit × List MemPlace)) (w : World), Bm < w.heap.size → w.cell? ⟨Bm, 0, none⟩ = some (.map (some b)) → w.ownsMap P k R b nn D0 → Maps.size D0 ≤ maxLen → Maps.size D0 * 16 ≤ 140737488355328 →
    Calls P gS #[.func (.func gI) #[] #[.pointer (some ⟨Bm, 0, none⟩)]] w fun e w' => ∃ (v : Value) (ss : List (List UInt8)), e = .returned v ∧ ss.Perm (strKeys D0) ∧
      w'.ownsRow w.heap.size t 1 v ss.length ((ss.mergeSort (fun x y => decide (x ≤ y))).map encStr) ∧ (v = .slice none 0 0 ↔ ss = []) ∧ Go.RowKit.Below w.heap.size w w'

noncomputable def keyS (v : AV) : Option (Nat × Nat) := v.strK none fun n s => cond (Nat.ble n 1000000) (some (n, s)) none
noncomputable def keysS {α : Type} (es : List ME) (d : α) (c : List (Nat × Nat) → α) : α := List.rec (motive := fun _ => (List (Nat × Nat) → α) → α) (fun c => c []) (fun e _ ih c => Option.rec d (fun n => ih fun l => c (n :: l)) (keyS e.k)) es c
noncomputable def ltS (x y : Nat × Nat) : Bool := strLt x.1 x.2 y.1 y.2
noncomputable def insS (z : Nat × Nat) (l : List (Nat × Nat)) : List (Nat × Nat) := List.rec (motive := fun _ => List (Nat × Nat)) [z] (fun y r ih => cond (ltS z y) (z :: y :: r) (y :: ih)) l
noncomputable def sortS (l : List (Nat × Nat)) : List (Nat × Nat) := List.rec (motive := fun _ => List (Nat × Nat)) [] (fun y _ ih => insS y ih) l
noncomputable def belowS (x : Nat × Nat) (l : List (Nat × Nat)) : Bool := List.rec (motive := fun _ => Bool) true (fun y _ ih => cond (ltS x y) ih false) l
/-- each is below all that follow -/
noncomputable def risesS (l : List (Nat × Nat)) : Bool := List.rec (motive := fun _ => Bool) true (fun y r ih => cond (belowS y r) ih false) l
noncomputable def listS (l : List (Nat × Nat)) : AV := List.rec (motive := fun _ => AV) .nl (fun n _ ih => .cn (.str n.1 n.2) ih) l
noncomputable def sortedLS (l : List (Nat × Nat)) (h : Hp) : R := List.rec (motive := fun _ => R) (.ok .nils h) (fun _ _ _ => mkK false (listS l) fun ob => newR ob h fun i h => forceN (lenL (listS l)) fun n => .ok (.slc i 0 n n 1 false) h) l
noncomputable def sortESS (es : List ME) (clock : Nat) (h : Hp) : R := cond (Bool.and (Bool.and (bornB clock es) (distN (es.map (·.born)))) (Nat.ble es.length 1000000)) (keysS es .no fun ks => cond (risesS (sortS ks)) (sortedLS (sortS ks) h) .no) .no
noncomputable def sortedSR (gI : Nat) (args : AV) (h : Hp) : R := args.cnK .no fun f l => l.nlK .no (f.fnK .no fun fn fs cap => cond (eqFnId fn (.func gI)) (fs.nlK .no (cap.cnK .no fun p l2 => l2.nlK .no (p.ptrK .no fun b o => cond (Nat.beq o 0) (boxMap b h fun m => mapK' m h fun es clock => sortESS es clock h) .no))) .no)

section
variable {P : Program} {N : Nat → Prop} {nt : Nat} {Γ : Ctx} {h h' : Hp} {w w' : World} {v : AV} {r : R}
def blS (x : Nat × Nat) : List UInt8 := bl x.1 x.2
theorem ltS_lt {x y : Nat × Nat} (e : ltS x y = true) : blS x < blS y := by
  unfold ltS at e
  rw [strLt_eq, Go.Proofs.bytesLess_eq] at e
  exact of_decide_eq_true e
theorem keyS_inv {y : AV} {n : Nat × Nat} (hk : keyS y = some n) : y = .str n.1 n.2 ∧ n.1 ≤ 1000000 := by
  unfold keyS at hk
  obtain ⟨m, s, rfl, h1⟩ := AV.strK_inv hk (by simp)
  obtain ⟨h2, h3⟩ := cond_inv h1 (by simp)
  cases h3
  exact ⟨rfl, Nat.le_of_ble_eq_true h2⟩
theorem keysS_inv {α : Type} {d r : α} (hr : r ≠ d) : ∀ (es : List ME) (c : List (Nat × Nat) → α), keysS es d c = r → ∃ ks, c ks = r ∧ es.map (·.k) = ks.map (fun n => AV.str n.1 n.2) ∧ ∀ n ∈ ks, n.1 ≤ 1000000
  | [], c, e => ⟨[], e, rfl, fun n hn => by cases hn⟩
  | x :: es, c, e => by
    have e : Option.rec d (fun n => keysS es d fun l => c (n :: l)) (keyS x.k) = r := e
    cases hk : keyS x.k with
    | none => rw [hk] at e; exact absurd e.symm hr
    | some n =>
      rw [hk] at e
      obtain ⟨ks, h1, h2, h3⟩ := keysS_inv hr es _ e
      obtain ⟨hx, hn⟩ := keyS_inv hk
      exact ⟨n :: ks, h1, by simp [hx, h2], fun m hm => (List.mem_cons.1 hm).elim (fun hh => hh ▸ hn) (h3 m)⟩
theorem insS_perm (z : Nat × Nat) : ∀ l : List (Nat × Nat), (insS z l).Perm (z :: l)
  | [] => List.Perm.refl _
  | y :: l => by
    show (cond (ltS z y) (z :: y :: l) (y :: insS z l)).Perm _
    cases ltS z y
    · exact ((insS_perm z l).cons y).trans (List.Perm.swap z y l)
    · exact List.Perm.refl _
theorem sortS_perm : ∀ l : List (Nat × Nat), (sortS l).Perm l
  | [] => List.Perm.refl _
  | y :: l => (insS_perm y (sortS l)).trans ((sortS_perm l).cons y)
theorem belowS_spec {x : Nat × Nat} : ∀ l : List (Nat × Nat), belowS x l = true → ∀ y ∈ l, blS x < blS y
  | [], _, y, hy => by cases hy
  | z :: l, e, y, hy => by
    obtain ⟨h1, h2⟩ := cond_t (show cond (ltS x z) (belowS x l) false = true from e)
    rcases List.mem_cons.1 hy with rfl | hy
    · exact ltS_lt h1
    · exact belowS_spec l h2 y hy
theorem risesS_spec : ∀ l : List (Nat × Nat), risesS l = true → l.Pairwise fun x y => blS x < blS y
  | [], _ => List.Pairwise.nil
  | z :: l, e => by
    obtain ⟨h1, h2⟩ := cond_t (show cond (belowS z l) (risesS l) false = true from e)
    exact List.pairwise_cons.2 ⟨belowS_spec l h1, risesS_spec l h2⟩
theorem mergeSort_sortS {ss : List (List UInt8)} {ks : List (Nat × Nat)} (hri : risesS (sortS ks) = true) (hp : ss.Perm (ks.map blS)) : ss.mergeSort (fun x y => decide (x ≤ y)) = (sortS ks).map blS := by
  have tr : ∀ a b c : List UInt8, decide (a ≤ b) = true → decide (b ≤ c) = true → decide (a ≤ c) = true := fun a b c h1 h2 => by simp only [decide_eq_true_eq] at *; exact List.le_trans h1 h2
  have to : ∀ a b : List UInt8, (decide (a ≤ b) || decide (b ≤ a)) = true := fun a b => by simp only [Bool.or_eq_true, decide_eq_true_eq]; exact List.le_total a b
  refine List.Perm.eq_of_pairwise (le := fun a b => decide (a ≤ b) = true) (fun a b _ _ h1 h2 => ?_) (List.pairwise_mergeSort tr to ss) ?_ (((List.mergeSort_perm ss _).trans hp).trans ((sortS_perm ks).symm.map _))
  · simp only [decide_eq_true_eq] at h1 h2
    exact List.le_antisymm h1 h2
  · rw [List.pairwise_map]
    exact (risesS_spec _ hri).imp fun {a b} hab => by simp only [decide_eq_true_eq]; exact List.le_of_lt hab
theorem listS_vals (Γ : Ctx) : ∀ l : List (Nat × Nat), (∀ n ∈ l, n.2 < 256 ^ n.1) → VRs Γ (listS l) (l.map fun n => Value.string (bstr n.1 n.2))
  | [], _ => by show VRs Γ .nl []; simp only [VRs]
  | n :: l, hb => by
    show VRs Γ (.cn (.str n.1 n.2) (listS l)) _
    simp only [VRs, List.map_cons]
    exact ⟨_, _, rfl, by simp only [VR]; exact ⟨trivial, hb n (by simp)⟩, listS_vals Γ l fun m hm => hb m (by simp [hm])⟩
theorem MEs_keysS : ∀ (es : List ME) (ms : List MapEntry) (ks : List (Nat × Nat)), MEs Γ es ms → es.map (·.k) = ks.map (fun n => AV.str n.1 n.2) → ms.map (·.key) = ks.map (fun n => Value.string (bstr n.1 n.2)) ∧ ∀ n ∈ ks, n.2 < 256 ^ n.1
  | [], ms, ks, hm, hk => by
    simp only [MEs] at hm; subst hm
    cases ks with
    | nil => exact ⟨rfl, fun n hn => by cases hn⟩
    | cons _ _ => cases hk
  | e :: es, ms, ks, hm, hk => by
    simp only [MEs] at hm
    obtain ⟨m, s, rfl, h1, h2, h3, h4⟩ := hm
    cases ks with
    | nil => cases hk
    | cons n ks =>
      simp only [List.map_cons, List.cons.injEq] at hk
      rw [hk.1] at h1; simp only [VR] at h1
      obtain ⟨g1, g2⟩ := MEs_keysS es s ks h4 hk.2
      refine ⟨by simp only [List.map_cons, h1.1, g1], fun m hm => ?_⟩
      rcases List.mem_cons.1 hm with rfl | hm
      · exact h1.2
      · exact g2 m hm
theorem bstr_enc (x : Nat × Nat) : Value.string (bstr x.1 x.2) = encStr (blS x) := rfl

theorem sortedSR_does {gS gI : Nat} {k t : TypeId} (C : SortedS P gS gI k t) (hR : Rel N Γ h w) {args : AV} {vs : List Value} (hv : VRs Γ args vs) (e : sortedSR gI args h = .ok v h') : Does P N Γ w (callFunc gS vs.toArray) (.ok v h') := by
  obtain ⟨hk, hent, C⟩ := C
  obtain ⟨f, l, rfl, e1⟩ := AV.cnK_inv (show args.cnK Ev.R.no _ = _ from e) ok_ne_no
  obtain ⟨rfl, e2⟩ := AV.nlK_inv e1 ok_ne_no
  obtain ⟨fn, fs, cap, rfl, e3⟩ := AV.fnK_inv e2 ok_ne_no
  obtain ⟨hfn, e4⟩ := cond_inv e3 ok_ne_no
  have hfn := eqFnId_eq hfn
  subst hfn
  obtain ⟨rfl, e5⟩ := AV.nlK_inv e4 ok_ne_no
  obtain ⟨p, l2, rfl, e6⟩ := AV.cnK_inv e5 ok_ne_no
  obtain ⟨rfl, e7⟩ := AV.nlK_inv e6 ok_ne_no
  obtain ⟨b, o, rfl, e8⟩ := AV.ptrK_inv e7 ok_ne_no
  obtain ⟨rfl, e9⟩ := beq_inv e8 ok_ne_no
  simp only [VRs, VR] at hv
  obtain ⟨F, r0, rfl, ⟨gf, fs, cs, rfl, hfs, hcs, hgf⟩, rfl⟩ := hv
  have hgf : gf = .func gI := hgf
  subst hgf
  obtain ⟨p, r1, hcs2, ⟨c, q, hs, rfl⟩, rfl⟩ := hcs
  have hfs0 : fs = #[] := by apply Array.ext'; simpa using hfs
  have hcs0 : cs = #[.pointer (some ⟨c, q + 0, none⟩)] := by apply Array.ext'; simpa using hcs2
  subst hfs0; subst hcs0
  unfold boxMap at e9
  split at e9
  · rename_i t0 hob
    have hq := hR.one b c q t0 hs hob
    subst hq
    obtain ⟨m, hm, e10⟩ := AV.mapK_inv e9 ok_ne_no
    obtain ⟨es, clock, hom, e11⟩ := mapK'_inv e10 ok_ne_no
    obtain ⟨obj, hobj, hor⟩ := hR.live b c 0 hs
    rw [hob] at hor
    obtain ⟨_, arr0, el0, rfl, hsz0, hcells⟩ := hor
    obtain ⟨u, hu, hvr⟩ := hcells 0 (by omega)
    rw [hm] at hvr; simp only [VR] at hvr
    obtain ⟨mc, hsm, rfl⟩ := hvr
    obtain ⟨_, arr, hbk, hms⟩ := hR.mapAt hsm hom
    have hcell : w.cell? ⟨c, 0, none⟩ = some (.map (some mc)) := by rw [cell?_of w hobj]; simpa using hu
    have hclt : c < w.heap.size := hR.blockLt hs
    obtain ⟨hchk, e12⟩ := cond_inv (show cond _ _ Ev.R.no = _ from e11) ok_ne_no
    rw [Bool.and_eq_true, Bool.and_eq_true] at hchk
    obtain ⟨ks, e13, hks, hkb⟩ := keysS_inv ok_ne_no es _ e12
    obtain ⟨hri, e14⟩ := cond_inv e13 ok_ne_no
    have hmlen := hms.length
    obtain ⟨hkeys, hbnd⟩ := MEs_keysS es arr.toList ks hms hks
    have hborn := MEs_born es arr.toList hms
    have hkl : ks.length = es.length := by have := congrArg List.length hks; simpa using this.symm
    have hesl : es.length ≤ 1000000 := Nat.le_of_ble_eq_true hchk.2
    have hnd : (ks.map blS).Nodup := by
      have h1 : ((sortS ks).map blS).Nodup := by
        show List.Pairwise _ _
        rw [List.pairwise_map]
        exact (risesS_spec _ hri).imp fun {a b} hab hh => by rw [hh] at hab; exact List.lt_irrefl _ hab
      exact ((sortS_perm ks).map blS).nodup_iff.1 h1
    let Rd : Value → Option (DataW Unit × List MemPlace) := fun _ => some (.nil, [])
    have hread : ∀ x ∈ arr.toList, ∃ n : Nat × Nat, x.key = encStr (blS n) ∧ WideElems.rd P k Rd x = some (.string (blS n), .nil) := fun x hx => by
      have hxk : x.key ∈ arr.toList.map (·.key) := List.mem_map.2 ⟨x, hx, rfl⟩
      rw [hkeys] at hxk
      obtain ⟨n, hn, hxn⟩ := List.mem_map.1 hxk
      refine ⟨n, hxn.symm, ?_⟩
      have hsz : (bstr n.1 n.2).size ≤ maxLen := by
        have := hkb n hn
        rw [bstr_size]; unfold maxLen; omega
      have hd : (bstr n.1 n.2).data.toList = blS n := by simp [bstr, blS]
      have hxn' : Value.string (bstr n.1 n.2) = x.key := hxn
      simp [WideElems.rd, keyOf, hk, mapKey, ← hxn', hsz, hd, Rd]
    have hfit : WideElems.Fit P k Rd arr clock := by
      refine ⟨?_, ⟨fun x hx => ?_, ?_, ?_⟩, fun x hx => ?_⟩
      · have : arr.size = es.length := by simpa using hmlen
        rw [this]; unfold maxLen; omega
      · have hxb : x.born ∈ arr.toList.map (·.born) := List.mem_map.2 ⟨x, hx, rfl⟩
        rw [hborn] at hxb
        obtain ⟨e0, he0, hb0⟩ := List.mem_map.1 hxb
        have := hchk.1.1
        unfold bornB at this
        rw [List.all_eq_true] at this
        have := Nat.le_of_ble_eq_true (this e0 he0)
        rw [← hb0]; exact this
      · rw [hborn]; exact distN_nodup _ hchk.1.2
      · rw [hkeys]
        have h1 : (ks.map fun n => Value.string (bstr n.1 n.2)) = (ks.map blS).map encStr := by rw [List.map_map]; rfl
        rw [h1]
        exact hnd.map _ fun a b hab hh => hab (encStr_inj hh)
      · obtain ⟨n, _, hrd⟩ := hread x hx; exact ⟨_, hrd⟩
    have hown : w.ownsMap P k Rd mc arr.size (.map ((arr.toList.map (WideElems.rg P k Rd)).foldr DataW.insert [])) := ⟨arr, clock, hbk, hfit, Nat.le_refl _, rfl⟩
    have hperm0 := foldr_insert_perm (arr.toList.map (WideElems.rg P k Rd))
    have hstrk : (strKeys (.map ((arr.toList.map (WideElems.rg P k Rd)).foldr DataW.insert []) : DataW Unit)).Perm (ks.map blS) := by
      have h1 : (strKeys (.map ((arr.toList.map (WideElems.rg P k Rd)).foldr DataW.insert []) : DataW Unit)).Perm ((arr.toList.map (WideElems.rg P k Rd)).map fun p => strOf p.1) := hperm0.map _
      have h2 : ((arr.toList.map (WideElems.rg P k Rd)).map fun p => strOf p.1) = ks.map blS := by
        have h3 : ∀ x ∈ arr.toList, encStr (strOf (WideElems.rg P k Rd x).1) = x.key := fun x hx => by
          obtain ⟨n, hxk, hrd⟩ := hread x hx
          rw [WideElems.rg_of hrd, hxk]; rfl
        have h4 : (arr.toList.map fun x => encStr (strOf (WideElems.rg P k Rd x).1)) = arr.toList.map (·.key) := List.map_congr_left h3
        have h5 : ((arr.toList.map (WideElems.rg P k Rd)).map fun p => strOf p.1).map encStr = (ks.map blS).map encStr := by
          rw [List.map_map, List.map_map, List.map_map]
          show List.map (fun x => encStr (strOf (WideElems.rg P k Rd x).1)) arr.toList = _
          rw [h4, hkeys]; rfl
        exact List.map_inj_right (fun a b hab => encStr_inj hab) |>.1 h5
      exact h1.trans (by rw [h2])
    have hsize : Maps.size (.map ((arr.toList.map (WideElems.rg P k Rd)).foldr DataW.insert []) : DataW Unit) = es.length := by
      have := hperm0.length_eq
      simp only [List.length_map] at this
      show ((arr.toList.map (WideElems.rg P k Rd)).foldr DataW.insert []).length = _
      rw [this, hmlen]
    have hcalls := C c mc arr.size _ Rd w hclt hcell hown (by rw [hsize]; unfold maxLen; omega) (by rw [hsize]; omega)
    refine .inr (.inr ⟨gS, _, w, hent _ w, hcalls.mono fun e' w' hq => ?_⟩)
    obtain ⟨val, ss, rfl, hss, hrow, hnil, hbel⟩ := hq
    have hperm := hss.trans hstrk
    have hsorted := mergeSort_sortS hri hperm
    rw [hsorted] at hrow
    have hR' := hR.grown hbel
    have hle := Γ.le_grow (w' := w') (by rw [hR.lim]; exact hbel.size)
    have hlen : ss.length = ks.length := by have := hperm.length_eq; simpa using this
    have hbndS : ∀ n ∈ sortS ks, n.2 < 256 ^ n.1 := fun n hn => hbnd n ((sortS_perm ks).mem_iff.1 hn)
    cases hsl : sortS ks with
    | nil =>
      rw [hsl] at e14
      obtain ⟨rfl, rfl⟩ := ok_inj (show Ev.R.ok _ _ = _ from e14)
      have hks0 : ks = [] := by have := (sortS_perm ks).length_eq; rw [hsl] at this; exact List.eq_nil_of_length_eq_zero this.symm
      have hss0 : ss = [] := List.eq_nil_of_length_eq_zero (by rw [hlen, hks0]; rfl)
      have := hnil.2 hss0
      subst this
      exact ⟨_, hle, by simp [VR], hR', Below.of hbel hR.base⟩
    | cons z zs =>
      have e14 : mkK false (listS (sortS ks)) (fun ob => newR ob h fun i h => forceN (lenL (listS (sortS ks))) fun n => .ok (.slc i 0 n n 1 false) h) = .ok v h' := by
        rw [hsl] at e14 ⊢; exact e14
      obtain ⟨ob, e15, hob2⟩ := mkK_inv e14 ok_ne_no
      obtain ⟨hn, e16⟩ := newR_inv e15 ok_ne_no
      rw [forceN_eq] at e16
      obtain ⟨rfl, rfl⟩ := ok_inj e16
      have hll : lenL (listS (sortS ks)) = ks.length := by
        rw [lenL_vals _ _ (listS_vals Γ (sortS ks) hbndS)]; simp [(sortS_perm ks).length_eq]
      have hkpos : ks.length ≠ 0 := by have := (sortS_perm ks).length_eq; rw [hsl] at this; simp at this; omega
      rcases hrow.2 with ⟨_, h0⟩ | ⟨g, cp, cur, rfl, hge, hcur, hncp, hcpm, hcsz, htake⟩
      · exact absurd h0 (by omega)
      · have hg : g < (Γ.grow w' (by rw [hR.lim]; exact hbel.size)).lim := (Array.getElem?_eq_some_iff.1 hcur).1
        have hle2 := (Γ.grow w' (by rw [hR.lim]; exact hbel.size)).le_also (b := h.n) (c := g) (q := 0) hg (hR'.none_at (Nat.le_refl _)) (Nat.le_of_eq hR'.nb)
        have hvals := listS_vals ((Γ.grow w' (by rw [hR.lim]; exact hbel.size)).also h.n g 0 hg) (sortS ks) hbndS
        have hObF := hob2 _ _ hvals t
        have hmapeq : (List.map encStr (List.map blS (sortS ks))) = (sortS ks).map fun n => Value.string (bstr n.1 n.2) := by rw [List.map_map]; rfl
        rw [hmapeq, Nat.mul_one] at htake
        have hslen : (sortS ks).length = ss.length := by rw [(sortS_perm ks).length_eq, hlen]
        have hor2 : OR ((Γ.grow w' (by rw [hR.lim]; exact hbel.size)).also h.n g 0 hg) 0 (.cells cur t (0, 0)) ob := by
          have := OR_shift (Q := 0) (arr := cur) (L := (sortS ks).map fun n => Value.string (bstr n.1 n.2)) (el := t) (el' := t) (fz := (0, 0)) hObF (fun i hi => by
            rw [Nat.zero_add, ← htake, List.getElem?_take_of_lt (by simpa [hslen] using hi)]; simp) (by
            have h1 : ss.length ≤ cur.size := by rw [hcsz, Nat.mul_one]; exact hncp
            simp [hslen]; omega) (.inl rfl)
          exact this
        have hRn := hR'.name hn hg (fun hN => by have := hR.base _ hN; omega) (fun b' q' hs' => by
          have := Γ.wf b' g q' hs'
          rw [hR.lim] at this; omega) hcur hor2
        refine ⟨_, hle.trans hle2, ?_, hRn, Below.of hbel hR.base⟩
        simp only [VR]
        refine ⟨g, 0, cp, (show (if h.n = h.n then some (g, 0) else _) = _ from if_pos rfl), by rw [hll, hlen], by rw [hll]; omega, (fun hh => by cases hh), fun _ => ⟨by rw [hll]; omega, ?_⟩⟩
        show 0 + 0 + cp * 1 ≤ if g < Γ.lim then _ else _
        rw [if_neg (by rw [hR.lim]; omega), hcur]
        simp [hcsz]
  · exact (no_ok (e := e9)).elim
end
end Go.Ev

/- slices.Sorted at this program's maps with numbers or strings for keys: the kit's contract (the layings: by the kit's program lay-plain.mjs). -/
namespace Go.Proofs
open Go.Shelf
def Tryz.keysA_ren : Go.Shelf.Ren := ⟨fun | 7 => 241 | 10 => 374 | n => n, fun | 23 => 143 | 26 => 3 | 3 => 31 | 28 => 328 | 0 => 0 | 27 => 327 | 33 => 43 | 4 => 4 | n => n, fun | n => n⟩
theorem Tryz.keysA : Go.Proofs.SlLaysZI.n7 Tryz.prog Tryz.keysA_ren := {
  mixed := by kernel_rfl
  f7 := ⟨Tryz.f241.name, by decide, Tryz.func241.trans (congrArg some (by kernel_rfl))⟩
  f10 := ⟨Tryz.f374.name, by decide, Tryz.func374.trans (congrArg some (by kernel_rfl))⟩
  t0 := Tryz.underlying0
  a0 := Tryz.isAgg0
  z0 := Tryz.sizeOf0
  v0 := Tryz.zeroValue0
  t4 := Tryz.underlying4
  a4 := Tryz.isAgg4
  z4 := Tryz.sizeOf4
  v4 := Tryz.zeroValue4
  t23 := Tryz.underlying143
  a23 := Tryz.isAgg143
  z23 := Tryz.sizeOf143
  v23 := Tryz.zeroValue143
  t26 := Tryz.underlying3
  a26 := Tryz.isAgg3
  z26 := Tryz.sizeOf3
  v26 := Tryz.zeroValue3
  t27 := Tryz.underlying327
  a27 := Tryz.isAgg327
  z27 := Tryz.sizeOf327
  v27 := Tryz.zeroValue327
  t28 := Tryz.underlying328
  a28 := Tryz.isAgg328
  z28 := Tryz.sizeOf328
  v28 := Tryz.zeroValue328
  t33 := Tryz.underlying43
  a33 := Tryz.isAgg43
  z33 := Tryz.sizeOf43
  v33 := Tryz.zeroValue43 }
def Tryz.keysB_ren : Go.Shelf.Ren := ⟨fun | 7 => 196 | 10 => 326 | n => n, fun | 23 => 330 | 26 => 3 | 3 => 3 | 28 => 328 | 0 => 0 | 27 => 327 | 33 => 43 | 4 => 4 | n => n, fun | n => n⟩
theorem Tryz.keysB : Go.Proofs.SlLaysZI.n7 Tryz.prog Tryz.keysB_ren := {
  mixed := by kernel_rfl
  f7 := ⟨Tryz.f196.name, by decide, Tryz.func196.trans (congrArg some (by kernel_rfl))⟩
  f10 := ⟨Tryz.f326.name, by decide, Tryz.func326.trans (congrArg some (by kernel_rfl))⟩
  t0 := Tryz.underlying0
  a0 := Tryz.isAgg0
  z0 := Tryz.sizeOf0
  v0 := Tryz.zeroValue0
  t4 := Tryz.underlying4
  a4 := Tryz.isAgg4
  z4 := Tryz.sizeOf4
  v4 := Tryz.zeroValue4
  t23 := Tryz.underlying330
  a23 := Tryz.isAgg330
  z23 := Tryz.sizeOf330
  v23 := Tryz.zeroValue330
  t26 := Tryz.underlying3
  a26 := Tryz.isAgg3
  z26 := Tryz.sizeOf3
  v26 := Tryz.zeroValue3
  t27 := Tryz.underlying327
  a27 := Tryz.isAgg327
  z27 := Tryz.sizeOf327
  v27 := Tryz.zeroValue327
  t28 := Tryz.underlying328
  a28 := Tryz.isAgg328
  z28 := Tryz.sizeOf328
  v28 := Tryz.zeroValue328
  t33 := Tryz.underlying43
  a33 := Tryz.isAgg43
  z33 := Tryz.sizeOf43
  v33 := Tryz.zeroValue43 }
def Tryz.keysC_ren : Go.Shelf.Ren := ⟨fun | 7 => 697 | 10 => 743 | n => n, fun | 23 => 332 | 26 => 3 | 3 => 338 | 28 => 328 | 0 => 0 | 27 => 327 | 33 => 43 | 4 => 4 | n => n, fun | n => n⟩
theorem Tryz.keysC : Go.Proofs.SlLaysZI.n7 Tryz.prog Tryz.keysC_ren := {
  mixed := by kernel_rfl
  f7 := ⟨Tryz.f697.name, by decide, Tryz.func697.trans (congrArg some (by kernel_rfl))⟩
  f10 := ⟨Tryz.f743.name, by decide, Tryz.func743.trans (congrArg some (by kernel_rfl))⟩
  t0 := Tryz.underlying0
  a0 := Tryz.isAgg0
  z0 := Tryz.sizeOf0
  v0 := Tryz.zeroValue0
  t4 := Tryz.underlying4
  a4 := Tryz.isAgg4
  z4 := Tryz.sizeOf4
  v4 := Tryz.zeroValue4
  t23 := Tryz.underlying332
  a23 := Tryz.isAgg332
  z23 := Tryz.sizeOf332
  v23 := Tryz.zeroValue332
  t26 := Tryz.underlying3
  a26 := Tryz.isAgg3
  z26 := Tryz.sizeOf3
  v26 := Tryz.zeroValue3
  t27 := Tryz.underlying327
  a27 := Tryz.isAgg327
  z27 := Tryz.sizeOf327
  v27 := Tryz.zeroValue327
  t28 := Tryz.underlying328
  a28 := Tryz.isAgg328
  z28 := Tryz.sizeOf328
  v28 := Tryz.zeroValue328
  t33 := Tryz.underlying43
  a33 := Tryz.isAgg43
  z33 := Tryz.sizeOf43
  v33 := Tryz.zeroValue43 }
def Tryz.sortedA_ren : Go.Shelf.Ren := ⟨fun | 6 => 195 | 8 => 324 | 9 => 325 | 11 => 470 | 13 => 409 | 12 => 471 | 23 => 529 | 24 => 530 | 14 => 593 | 15 => 594 | 16 => 595 | 17 => 596 | 18 => 597 | 19 => 598 | 20 => 599 | 21 => 600 | 22 => 601 | 25 => 702 | 26 => 630 | 27 => 631 | 28 => 703 | 29 => 704 | 30 => 503 | 31 => 744 | n => n, fun | 26 => 3 | 28 => 328 | 24 => 54 | 0 => 0 | 3 => 3 | 37 => 322 | 48 => 60 | 50 => 30 | 4 => 4 | 40 => 669 | 39 => 668 | 45 => 58 | 5 => 5 | 9 => 9 | 51 => 752 | 55 => 755 | 57 => 814 | 58 => 159 | 33 => 43 | n => n, fun | n => n⟩
theorem Tryz.sortedA : Go.Proofs.SlLaysZI.n6 Tryz.prog Tryz.sortedA_ren := {
  mixed := by kernel_rfl
  f6 := ⟨Tryz.f195.name, by decide, Tryz.func195.trans (congrArg some (by kernel_rfl))⟩
  f8 := ⟨Tryz.f324.name, by decide, Tryz.func324.trans (congrArg some (by kernel_rfl))⟩
  f11 := ⟨Tryz.f470.name, by decide, Tryz.func470.trans (congrArg some (by kernel_rfl))⟩
  t0 := Tryz.underlying0
  a0 := Tryz.isAgg0
  z0 := Tryz.sizeOf0
  v0 := Tryz.zeroValue0
  t24 := Tryz.underlying54
  a24 := Tryz.isAgg54
  z24 := Tryz.sizeOf54
  v24 := Tryz.zeroValue54
  t26 := Tryz.underlying3
  a26 := Tryz.isAgg3
  z26 := Tryz.sizeOf3
  v26 := Tryz.zeroValue3
  t28 := Tryz.underlying328
  a28 := Tryz.isAgg328
  z28 := Tryz.sizeOf328
  v28 := Tryz.zeroValue328
  i26 := by kernel_rfl }
def Tryz.sortA_ren : Go.Shelf.Ren := ⟨fun | 5 => 325 | 8 => 409 | 7 => 471 | 19 => 529 | 20 => 530 | 10 => 593 | 11 => 594 | 12 => 595 | 13 => 596 | 14 => 597 | 15 => 598 | 16 => 599 | 17 => 600 | 18 => 601 | 30 => 702 | 31 => 630 | 32 => 631 | 33 => 703 | 34 => 704 | 35 => 503 | 40 => 744 | n => n, fun | 23 => 54 | 25 => 3 | 3 => 3 | 32 => 322 | 22 => 54 | 0 => 0 | 44 => 60 | 46 => 30 | 4 => 4 | 36 => 669 | 35 => 668 | 41 => 58 | 5 => 5 | 9 => 9 | 53 => 752 | 57 => 755 | 63 => 814 | 64 => 159 | n => n, fun | n => n⟩
theorem Tryz.sortA : Go.Proofs.SlLaysM.n5 Tryz.prog Tryz.sortA_ren := {
  mixed := by kernel_rfl
  f5 := ⟨Tryz.f325.name, by decide, Tryz.func325.trans (congrArg some (by kernel_rfl))⟩
  f7 := ⟨Tryz.f471.name, by decide, Tryz.func471.trans (congrArg some (by kernel_rfl))⟩
  f8 := Tryz.func409.trans (congrArg some (by kernel_rfl))
  f10 := ⟨Tryz.f593.name, by decide, Tryz.func593.trans (congrArg some (by kernel_rfl))⟩
  f11 := ⟨Tryz.f594.name, by decide, Tryz.func594.trans (congrArg some (by kernel_rfl))⟩
  f12 := ⟨Tryz.f595.name, by decide, Tryz.func595.trans (congrArg some (by kernel_rfl))⟩
  f13 := ⟨Tryz.f596.name, by decide, Tryz.func596.trans (congrArg some (by kernel_rfl))⟩
  f14 := ⟨Tryz.f597.name, by decide, Tryz.func597.trans (congrArg some (by kernel_rfl))⟩
  f15 := ⟨Tryz.f598.name, by decide, Tryz.func598.trans (congrArg some (by kernel_rfl))⟩
  f16 := ⟨Tryz.f599.name, by decide, Tryz.func599.trans (congrArg some (by kernel_rfl))⟩
  f17 := ⟨Tryz.f600.name, by decide, Tryz.func600.trans (congrArg some (by kernel_rfl))⟩
  f18 := ⟨Tryz.f601.name, by decide, Tryz.func601.trans (congrArg some (by kernel_rfl))⟩
  f19 := Tryz.func529.trans (congrArg some (by kernel_rfl))
  f20 := Tryz.func530.trans (congrArg some (by kernel_rfl))
  f30 := ⟨Tryz.f702.name, by decide, Tryz.func702.trans (congrArg some (by kernel_rfl))⟩
  f31 := Tryz.func630.trans (congrArg some (by kernel_rfl))
  f32 := Tryz.func631.trans (congrArg some (by kernel_rfl))
  f33 := ⟨Tryz.f703.name, by decide, Tryz.func703.trans (congrArg some (by kernel_rfl))⟩
  f34 := ⟨Tryz.f704.name, by decide, Tryz.func704.trans (congrArg some (by kernel_rfl))⟩
  f35 := ⟨Tryz.f503.name, by decide, Tryz.func503.trans (congrArg some (by kernel_rfl))⟩
  f40 := ⟨Tryz.f744.name, by decide, Tryz.func744.trans (congrArg some (by kernel_rfl))⟩
  t0 := Tryz.underlying0
  a0 := Tryz.isAgg0
  z0 := Tryz.sizeOf0
  v0 := Tryz.zeroValue0
  t3 := Tryz.underlying3
  a3 := Tryz.isAgg3
  z3 := Tryz.sizeOf3
  v3 := Tryz.zeroValue3
  t4 := Tryz.underlying4
  a4 := Tryz.isAgg4
  z4 := Tryz.sizeOf4
  v4 := Tryz.zeroValue4
  t5 := Tryz.underlying5
  a5 := Tryz.isAgg5
  z5 := Tryz.sizeOf5
  v5 := Tryz.zeroValue5
  t9 := Tryz.underlying9
  a9 := Tryz.isAgg9
  z9 := Tryz.sizeOf9
  v9 := Tryz.zeroValue9
  t22 := Tryz.underlying54
  a22 := Tryz.isAgg54
  z22 := Tryz.sizeOf54
  v22 := Tryz.zeroValue54
  t23 := Tryz.underlying54
  a23 := Tryz.isAgg54
  z23 := Tryz.sizeOf54
  v23 := Tryz.zeroValue54
  t25 := Tryz.underlying3
  a25 := Tryz.isAgg3
  z25 := Tryz.sizeOf3
  v25 := Tryz.zeroValue3
  t32 := Tryz.underlying322
  a32 := Tryz.isAgg322
  z32 := Tryz.sizeOf322
  v32 := Tryz.zeroValue322
  t35 := Tryz.underlying668
  a35 := Tryz.isAgg668
  z35 := Tryz.sizeOf668
  v35 := Tryz.zeroValue668
  t36 := Tryz.underlying669
  a36 := Tryz.isAgg669
  z36 := Tryz.sizeOf669
  v36 := Tryz.zeroValue669
  t41 := Tryz.underlying58
  a41 := Tryz.isAgg58
  z41 := Tryz.sizeOf58
  v41 := Tryz.zeroValue58
  t44 := Tryz.underlying60
  a44 := Tryz.isAgg60
  z44 := Tryz.sizeOf60
  v44 := Tryz.zeroValue60
  t46 := Tryz.underlying30
  a46 := Tryz.isAgg30
  z46 := Tryz.sizeOf30
  v46 := Tryz.zeroValue30
  t53 := Tryz.underlying752
  a53 := Tryz.isAgg752
  z53 := Tryz.sizeOf752
  v53 := Tryz.zeroValue752
  t57 := Tryz.underlying755
  a57 := Tryz.isAgg755
  z57 := Tryz.sizeOf755
  v57 := Tryz.zeroValue755
  t63 := Tryz.underlying814
  a63 := Tryz.isAgg814
  z63 := Tryz.sizeOf814
  v63 := Tryz.zeroValue814
  t64 := Tryz.underlying159
  a64 := Tryz.isAgg159
  z64 := Tryz.sizeOf159
  v64 := Tryz.zeroValue159 }
def Tryz.keysS_ren : Go.Shelf.Ren := ⟨fun | 7 => 281 | 10 => 420 | n => n, fun | 23 => 134 | 26 => 9 | 3 => 109 | 28 => 429 | 0 => 0 | 27 => 428 | 33 => 461 | 4 => 4 | n => n, fun | n => n⟩
theorem Tryz.keysS : Go.Proofs.SlLaysZ.n7 Tryz.prog Tryz.keysS_ren := {
  mixed := by kernel_rfl
  f7 := ⟨Tryz.f281.name, by decide, Tryz.func281.trans (congrArg some (by kernel_rfl))⟩
  f10 := ⟨Tryz.f420.name, by decide, Tryz.func420.trans (congrArg some (by kernel_rfl))⟩
  t0 := Tryz.underlying0
  a0 := Tryz.isAgg0
  z0 := Tryz.sizeOf0
  v0 := Tryz.zeroValue0
  t4 := Tryz.underlying4
  a4 := Tryz.isAgg4
  z4 := Tryz.sizeOf4
  v4 := Tryz.zeroValue4
  t23 := Tryz.underlying134
  a23 := Tryz.isAgg134
  z23 := Tryz.sizeOf134
  v23 := Tryz.zeroValue134
  t26 := Tryz.underlying9
  a26 := Tryz.isAgg9
  z26 := Tryz.sizeOf9
  v26 := Tryz.zeroValue9
  t27 := Tryz.underlying428
  a27 := Tryz.isAgg428
  z27 := Tryz.sizeOf428
  v27 := Tryz.zeroValue428
  t28 := Tryz.underlying429
  a28 := Tryz.isAgg429
  z28 := Tryz.sizeOf429
  v28 := Tryz.zeroValue429
  t33 := Tryz.underlying461
  a33 := Tryz.isAgg461
  z33 := Tryz.sizeOf461
  v33 := Tryz.zeroValue461 }
def Tryz.sortedSA_ren : Go.Shelf.Ren := ⟨fun | 6 => 280 | 8 => 418 | 9 => 419 | 11 => 540 | 13 => 409 | 12 => 541 | 23 => 529 | 24 => 530 | 14 => 640 | 15 => 641 | 16 => 642 | 17 => 643 | 18 => 644 | 19 => 645 | 20 => 646 | 21 => 647 | 22 => 648 | 25 => 713 | 26 => 630 | 27 => 631 | 28 => 714 | 29 => 715 | 30 => 716 | 31 => 749 | n => n, fun | 26 => 9 | 28 => 429 | 24 => 426 | 0 => 0 | 3 => 3 | 37 => 322 | 48 => 60 | 50 => 30 | 4 => 4 | 40 => 669 | 39 => 668 | 45 => 58 | 5 => 5 | 9 => 9 | 51 => 752 | 55 => 755 | 57 => 814 | 58 => 159 | 33 => 461 | n => n, fun | n => n⟩
theorem Tryz.sortedSA : Go.Proofs.SlLaysZ.n6 Tryz.prog Tryz.sortedSA_ren := {
  mixed := by kernel_rfl
  f6 := ⟨Tryz.f280.name, by decide, Tryz.func280.trans (congrArg some (by kernel_rfl))⟩
  f8 := ⟨Tryz.f418.name, by decide, Tryz.func418.trans (congrArg some (by kernel_rfl))⟩
  f11 := ⟨Tryz.f540.name, by decide, Tryz.func540.trans (congrArg some (by kernel_rfl))⟩
  t0 := Tryz.underlying0
  a0 := Tryz.isAgg0
  z0 := Tryz.sizeOf0
  v0 := Tryz.zeroValue0
  t24 := Tryz.underlying426
  a24 := Tryz.isAgg426
  z24 := Tryz.sizeOf426
  v24 := Tryz.zeroValue426
  t26 := Tryz.underlying9
  a26 := Tryz.isAgg9
  z26 := Tryz.sizeOf9
  v26 := Tryz.zeroValue9
  t28 := Tryz.underlying429
  a28 := Tryz.isAgg429
  z28 := Tryz.sizeOf429
  v28 := Tryz.zeroValue429
  i26 := by kernel_rfl }
def Tryz.sortSA_ren : Go.Shelf.Ren := ⟨fun | 6 => 419 | 8 => 409 | 9 => 541 | 19 => 529 | 20 => 530 | 21 => 640 | 22 => 641 | 23 => 642 | 24 => 643 | 25 => 644 | 26 => 645 | 27 => 646 | 28 => 647 | 29 => 648 | 36 => 713 | 31 => 630 | 32 => 631 | 37 => 714 | 38 => 715 | 39 => 716 | 41 => 749 | n => n, fun | 27 => 426 | 29 => 9 | 3 => 3 | 32 => 322 | 26 => 426 | 0 => 0 | 44 => 60 | 46 => 30 | 4 => 4 | 36 => 669 | 35 => 668 | 41 => 58 | 5 => 5 | 9 => 9 | 53 => 752 | 57 => 755 | 63 => 814 | 64 => 159 | n => n, fun | n => n⟩
theorem Tryz.sortSA : Go.Proofs.SlLaysM.n6 Tryz.prog Tryz.sortSA_ren := {
  mixed := by kernel_rfl
  f6 := ⟨Tryz.f419.name, by decide, Tryz.func419.trans (congrArg some (by kernel_rfl))⟩
  f8 := Tryz.func409.trans (congrArg some (by kernel_rfl))
  f9 := ⟨Tryz.f541.name, by decide, Tryz.func541.trans (congrArg some (by kernel_rfl))⟩
  f19 := Tryz.func529.trans (congrArg some (by kernel_rfl))
  f20 := Tryz.func530.trans (congrArg some (by kernel_rfl))
  f21 := ⟨Tryz.f640.name, by decide, Tryz.func640.trans (congrArg some (by kernel_rfl))⟩
  f22 := ⟨Tryz.f641.name, by decide, Tryz.func641.trans (congrArg some (by kernel_rfl))⟩
  f23 := ⟨Tryz.f642.name, by decide, Tryz.func642.trans (congrArg some (by kernel_rfl))⟩
  f24 := ⟨Tryz.f643.name, by decide, Tryz.func643.trans (congrArg some (by kernel_rfl))⟩
  f25 := ⟨Tryz.f644.name, by decide, Tryz.func644.trans (congrArg some (by kernel_rfl))⟩
  f26 := ⟨Tryz.f645.name, by decide, Tryz.func645.trans (congrArg some (by kernel_rfl))⟩
  f27 := ⟨Tryz.f646.name, by decide, Tryz.func646.trans (congrArg some (by kernel_rfl))⟩
  f28 := ⟨Tryz.f647.name, by decide, Tryz.func647.trans (congrArg some (by kernel_rfl))⟩
  f29 := ⟨Tryz.f648.name, by decide, Tryz.func648.trans (congrArg some (by kernel_rfl))⟩
  f31 := Tryz.func630.trans (congrArg some (by kernel_rfl))
  f32 := Tryz.func631.trans (congrArg some (by kernel_rfl))
  f36 := ⟨Tryz.f713.name, by decide, Tryz.func713.trans (congrArg some (by kernel_rfl))⟩
  f37 := ⟨Tryz.f714.name, by decide, Tryz.func714.trans (congrArg some (by kernel_rfl))⟩
  f38 := ⟨Tryz.f715.name, by decide, Tryz.func715.trans (congrArg some (by kernel_rfl))⟩
  f39 := ⟨Tryz.f716.name, by decide, Tryz.func716.trans (congrArg some (by kernel_rfl))⟩
  f41 := ⟨Tryz.f749.name, by decide, Tryz.func749.trans (congrArg some (by kernel_rfl))⟩
  t0 := Tryz.underlying0
  a0 := Tryz.isAgg0
  z0 := Tryz.sizeOf0
  v0 := Tryz.zeroValue0
  t3 := Tryz.underlying3
  a3 := Tryz.isAgg3
  z3 := Tryz.sizeOf3
  v3 := Tryz.zeroValue3
  t4 := Tryz.underlying4
  a4 := Tryz.isAgg4
  z4 := Tryz.sizeOf4
  v4 := Tryz.zeroValue4
  t5 := Tryz.underlying5
  a5 := Tryz.isAgg5
  z5 := Tryz.sizeOf5
  v5 := Tryz.zeroValue5
  t9 := Tryz.underlying9
  a9 := Tryz.isAgg9
  z9 := Tryz.sizeOf9
  v9 := Tryz.zeroValue9
  t26 := Tryz.underlying426
  a26 := Tryz.isAgg426
  z26 := Tryz.sizeOf426
  v26 := Tryz.zeroValue426
  t27 := Tryz.underlying426
  a27 := Tryz.isAgg426
  z27 := Tryz.sizeOf426
  v27 := Tryz.zeroValue426
  t29 := Tryz.underlying9
  a29 := Tryz.isAgg9
  z29 := Tryz.sizeOf9
  v29 := Tryz.zeroValue9
  t32 := Tryz.underlying322
  a32 := Tryz.isAgg322
  z32 := Tryz.sizeOf322
  v32 := Tryz.zeroValue322
  t35 := Tryz.underlying668
  a35 := Tryz.isAgg668
  z35 := Tryz.sizeOf668
  v35 := Tryz.zeroValue668
  t36 := Tryz.underlying669
  a36 := Tryz.isAgg669
  z36 := Tryz.sizeOf669
  v36 := Tryz.zeroValue669
  t41 := Tryz.underlying58
  a41 := Tryz.isAgg58
  z41 := Tryz.sizeOf58
  v41 := Tryz.zeroValue58
  t44 := Tryz.underlying60
  a44 := Tryz.isAgg60
  z44 := Tryz.sizeOf60
  v44 := Tryz.zeroValue60
  t46 := Tryz.underlying30
  a46 := Tryz.isAgg30
  z46 := Tryz.sizeOf30
  v46 := Tryz.zeroValue30
  t53 := Tryz.underlying752
  a53 := Tryz.isAgg752
  z53 := Tryz.sizeOf752
  v53 := Tryz.zeroValue752
  t57 := Tryz.underlying755
  a57 := Tryz.isAgg755
  z57 := Tryz.sizeOf755
  v57 := Tryz.zeroValue755
  t63 := Tryz.underlying814
  a63 := Tryz.isAgg814
  z63 := Tryz.sizeOf814
  v63 := Tryz.zeroValue814
  t64 := Tryz.underlying159
  a64 := Tryz.isAgg159
  z64 := Tryz.sizeOf159
  v64 := Tryz.zeroValue159 }
open Go.RowKit Go.Maps Go.Sort
theorem Tryz.sortsA (m : Nat) : AnyZI.SortsIn Tryz.prog Tryz.sortedA_ren Fence.wide m :=
  ⟨fun blk off cap ss W hH hblk hsz => callsIn_wide.2 (AnyM.slices_Sort_int Tryz.sortA blk off cap ss W hH hblk hsz),
   fun p cap W => callsIn_wide.2 (AnyM.slices_Sort_int_none Tryz.sortA p cap W)⟩
theorem Tryz.sortedC : Ev.SortedC Tryz.prog 195 374 3 3 := by
  refine ⟨by kernel_rfl, enters_of Tryz.func195 (by kernel_rfl) rfl, fun Bm b nn D0 R w hBm hcell hown hmax hbytes => ?_⟩
  have hseq : SeqGives Fence.wide 2 Tryz.prog 374 #[.pointer (some ⟨Bm, 0, none⟩)] encZ (fun ss => ss.Perm (intKeys D0)) (Maps.size D0) w :=
    AnyZI.keys_gives (ρ := Tryz.keysA_ren) { Tryz.keysA with } Fence.wide _ trivial rfl (by omega) Bm b nn D0 w hBm hcell hown
  have cS := AnyZI.sorted_in Tryz.sortedA Fence.wide 5 trivial trivial trivial trivial rfl (by omega) (Tryz.sortsA _) (enters_of Tryz.func325 (by kernel_rfl) rfl) 374 #[.pointer (some ⟨Bm, 0, none⟩)] trivial (enters_of Tryz.func374 (by kernel_rfl) rfl) _ _ hmax hbytes w hseq
  change CallsIn _ _ Tryz.prog 195 _ _ _ at cS
  exact callsIn_wide.1 cS
theorem Tryz.sortedD : Ev.SortedC Tryz.prog 195 326 3 3 := by
  refine ⟨by kernel_rfl, enters_of Tryz.func195 (by kernel_rfl) rfl, fun Bm b nn D0 R w hBm hcell hown hmax hbytes => ?_⟩
  have hseq : SeqGives Fence.wide 2 Tryz.prog 326 #[.pointer (some ⟨Bm, 0, none⟩)] encZ (fun ss => ss.Perm (intKeys D0)) (Maps.size D0) w :=
    AnyZI.keys_gives (ρ := Tryz.keysB_ren) { Tryz.keysB with } Fence.wide _ trivial rfl (by omega) Bm b nn D0 w hBm hcell hown
  have cS := AnyZI.sorted_in Tryz.sortedA Fence.wide 5 trivial trivial trivial trivial rfl (by omega) (Tryz.sortsA _) (enters_of Tryz.func325 (by kernel_rfl) rfl) 326 #[.pointer (some ⟨Bm, 0, none⟩)] trivial (enters_of Tryz.func326 (by kernel_rfl) rfl) _ _ hmax hbytes w hseq
  change CallsIn _ _ Tryz.prog 195 _ _ _ at cS
  exact callsIn_wide.1 cS
theorem Tryz.sortedE : Ev.SortedC Tryz.prog 195 743 3 3 := by
  refine ⟨by kernel_rfl, enters_of Tryz.func195 (by kernel_rfl) rfl, fun Bm b nn D0 R w hBm hcell hown hmax hbytes => ?_⟩
  have hseq : SeqGives Fence.wide 2 Tryz.prog 743 #[.pointer (some ⟨Bm, 0, none⟩)] encZ (fun ss => ss.Perm (intKeys D0)) (Maps.size D0) w :=
    AnyZI.keys_gives (ρ := Tryz.keysC_ren) { Tryz.keysC with } Fence.wide _ trivial rfl (by omega) Bm b nn D0 w hBm hcell hown
  have cS := AnyZI.sorted_in Tryz.sortedA Fence.wide 5 trivial trivial trivial trivial rfl (by omega) (Tryz.sortsA _) (enters_of Tryz.func325 (by kernel_rfl) rfl) 743 #[.pointer (some ⟨Bm, 0, none⟩)] trivial (enters_of Tryz.func743 (by kernel_rfl) rfl) _ _ hmax hbytes w hseq
  change CallsIn _ _ Tryz.prog 195 _ _ _ at cS
  exact callsIn_wide.1 cS
theorem Tryz.sortsSA (m : Nat) : AnyZ.SortsIn Tryz.prog Tryz.sortedSA_ren Fence.wide m :=
  ⟨fun blk off cap ss W hH hblk hsz => callsIn_wide.2 (AnyM.slices_Sort_string Tryz.sortSA blk off cap ss W hH hblk hsz),
   fun p cap W => callsIn_wide.2 (AnyM.slices_Sort_string_none Tryz.sortSA p cap W)⟩
theorem Tryz.sortedS : Ev.SortedS Tryz.prog 280 420 9 9 := by
  refine ⟨by kernel_rfl, enters_of Tryz.func280 (by kernel_rfl) rfl, fun Bm b nn D0 R w hBm hcell hown hmax hbytes => ?_⟩
  have hseq : SeqGives Fence.wide 2 Tryz.prog 420 #[.pointer (some ⟨Bm, 0, none⟩)] encStr (fun ss => ss.Perm (strKeys D0)) (Maps.size D0) w :=
    AnyZ.keys_gives (ρ := Tryz.keysS_ren) { Tryz.keysS with } Fence.wide _ trivial rfl (by omega) Bm b nn D0 w hBm hcell hown
  have cS := AnyZ.sorted_in Tryz.sortedSA Fence.wide 5 trivial trivial trivial trivial rfl (by omega) (Tryz.sortsSA _) (enters_of Tryz.func419 (by kernel_rfl) rfl) 420 #[.pointer (some ⟨Bm, 0, none⟩)] trivial (enters_of Tryz.func420 (by kernel_rfl) rfl) _ _ hmax hbytes w hseq
  change CallsIn _ _ Tryz.prog 280 _ _ _ at cS
  exact callsIn_wide.1 cS
end Go.Proofs

/- Runs in pieces: a heap that tells less; what was run once stands for the call; calls that need nothing of the heap. -/
namespace Go.Ev
open Go Go.RowKit

/-! a heap that tells less -/
noncomputable def eqCells (n : Nat) (t t' : Ct) : Bool := Nat.rec (motive := fun _ => Bool) true (fun i ih => cond (eqAV (ctAt t i) (ctAt t' i)) ih false) n
noncomputable def fitsB (t : Ct) (n : Nat) : Bool := Ct.rec (motive := fun _ => Bool) (fun _ => Nat.ble n 17) (fun _ => Nat.ble n 289) (fun _ => Nat.ble n 4913) t
noncomputable def eqMEs : List ME → List ME → Bool
  | [], [] => true
  | a :: l, b :: r => cond (eqAV a.k b.k) (cond (eqAV a.v b.v) (cond (Nat.beq a.born b.born) (eqMEs l r) false) false) false
  | _, _ => false
/-- the first tells no more than the second -/
noncomputable def leOb : Ob → Ob → Bool
  | .dead, _ => true
  | .cells n t, .cells m u => cond (Nat.beq n m) (cond (fitsB t n) (eqCells n u t) false) false
  | .bytes n x, .bytes m y => cond (Nat.beq n m) (Nat.beq x y) false
  | .map es c, .map fs d => cond (Nat.beq c d) (eqMEs fs es) false
  | _, _ => false
noncomputable def leHpN (h h' : Hp) (k : Nat) : Bool := Nat.rec (motive := fun _ => Bool) true (fun b ih => cond (leOb (obAt b h') (obAt b h)) ih false) k
noncomputable def leHp (h h' : Hp) : Bool := cond (Nat.beq h.n h'.n) (leHpN h h' h.n) false
theorem eqCells_spec {t u : Ct} : ∀ n, eqCells n t u = true → ∀ i, i < n → ctAt u i = ctAt t i
  | 0, _, i, h => by omega
  | n + 1, e, i, h => by
    obtain ⟨h1, h2⟩ := cond_t (show cond (eqAV (ctAt t n) (ctAt u n)) (eqCells n t u) false = true from e)
    by_cases hi : i = n
    · subst hi; exact (eqAV_eq _ _ h1).symm
    · exact eqCells_spec n h2 i (by omega)
theorem fitsB_spec {t : Ct} {n : Nat} (h : fitsB t n = true) : ctFits t n := by cases t <;> exact Nat.le_of_ble_eq_true h
theorem eqMEs_eq : ∀ (l r : List ME), eqMEs l r = true → l = r
  | [], [], _ => rfl
  | a :: l, b :: r, e => by
    unfold eqMEs at e
    obtain ⟨h1, e1⟩ := cond_t e
    obtain ⟨h2, e2⟩ := cond_t e1
    obtain ⟨h3, e3⟩ := cond_t e2
    obtain ⟨ak, av, ab⟩ := a
    obtain ⟨bk, bv, bb⟩ := b
    have h1 := eqAV_eq _ _ h1
    have h2 := eqAV_eq _ _ h2
    have h3 := Nat.eq_of_beq_eq_true h3
    simp only at h1 h2 h3
    rw [h1, h2, h3, eqMEs_eq l r e3]
  | [], _ :: _, e => by unfold eqMEs at e; cases e
  | _ :: _, [], e => by unfold eqMEs at e; cases e
theorem leOb_spec {o u : Ob} (e : leOb o u = true) : o = .dead ∨ (∃ n t t', o = .cells n t ∧ u = .cells n t' ∧ ctFits t n ∧ ∀ i, i < n → ctAt t i = ctAt t' i) ∨ ((∀ n t, o ≠ .cells n t) ∧ u ≠ .dead ∧ o = u) := by
  unfold leOb at e
  split at e
  · exact .inl rfl
  · rename_i n t m u
    obtain ⟨h1, e1⟩ := cond_t e
    obtain ⟨h2, e2⟩ := cond_t e1
    have := Nat.eq_of_beq_eq_true h1
    subst this
    exact .inr (.inl ⟨_, _, _, rfl, rfl, fitsB_spec h2, eqCells_spec n e2⟩)
  · rename_i n x m y
    obtain ⟨h1, e1⟩ := cond_t e
    rw [Nat.eq_of_beq_eq_true h1, Nat.eq_of_beq_eq_true e1]
    exact .inr (.inr ⟨fun _ _ h => (by cases h), (fun h => by cases h), rfl⟩)
  · rename_i es c fs d
    obtain ⟨h1, e1⟩ := cond_t e
    rw [Nat.eq_of_beq_eq_true h1, eqMEs_eq _ _ e1]
    exact .inr (.inr ⟨fun _ _ h => (by cases h), (fun h => by cases h), rfl⟩)
  · cases e
theorem leHpN_spec {h h' : Hp} : ∀ k, leHpN h h' k = true → ∀ b, b < k → leOb (obAt b h') (obAt b h) = true
  | 0, _, b, hb => by omega
  | k + 1, e, b, hb => by
    obtain ⟨h1, h2⟩ := cond_t (show cond (leOb (obAt k h') (obAt k h)) (leHpN h h' k) false = true from e)
    by_cases hk : b = k
    · subst hk; exact h1
    · exact leHpN_spec k h2 b (by omega)
section
variable {P : Program} {N : Nat → Prop} {Γ : Ctx} {h h' : Hp} {w w' : World} {v v' : AV} {r : R} {callR : Nat → AV → Hp → R} {sums : (Nat → AV → Hp → R) → Nat → AV → Hp → R → R}
theorem Rel.less (R : Rel N Γ h w) (e : leHp h h' = true) : Rel N Γ h' w := by
  obtain ⟨h1, h2⟩ := cond_t (show cond (Nat.beq h.n h'.n) (leHpN h h' h.n) false = true from e)
  have hn := Nat.eq_of_beq_eq_true h1
  have hle := fun b hb => leOb_spec (leHpN_spec _ h2 b hb)
  refine ⟨fun b c q hs => ?_, R.szs, fun b c q hs => by rw [← hn]; exact R.bnd b c q hs, fun b1 b2 c q1 q2 s1 s2 d1 d2 => ?_, R.own, R.lim, by rw [← hn]; exact R.hn, by rw [← hn]; exact R.gn, R.glob, R.base, by rw [← hn]; exact R.nb, fun b c q t hs ht => ?_⟩
  · obtain ⟨obj, g1, g2⟩ := R.live b c q hs
    refine ⟨obj, g1, ?_⟩
    rcases hle b (R.bnd b c q hs) with hd | ⟨n, t, t', ho, hu, hf, hi⟩ | ⟨_, _, ho⟩
    · rw [hd]; trivial
    · rw [ho]; rw [hu] at g2
      obtain ⟨_, arr, el, k1, k2, k3⟩ := g2
      exact ⟨hf, arr, el, k1, k2, fun i hin => by obtain ⟨u, k4, k5⟩ := k3 i hin; exact ⟨u, k4, by rw [hi i hin]; exact k5⟩⟩
    · rw [ho]; exact g2
  · have key : ∀ b, b < h.n → obAt b h' ≠ .dead → obAt b h ≠ .dead := fun b hb hd => by
      rcases hle b hb with hd' | ⟨n, t, t', ho, hu, hf, hi⟩ | ⟨_, hu, ho⟩
      · exact absurd hd' hd
      · rw [hu]; intro hh; cases hh
      · exact hu
    exact R.sep b1 b2 c q1 q2 s1 s2 (key b1 (R.bnd _ _ _ s1) d1) (key b2 (R.bnd _ _ _ s2) d2)
  · rcases hle b (R.bnd b c q hs) with hd | ⟨n, t1, t', ho, hu, hf, hi⟩ | ⟨hc, _, ho⟩
    · rw [hd] at ht; cases ht
    · rw [ho] at ht
      cases ht
      exact R.one b c q t' hs hu
    · exact absurd ht (hc 1 t)
theorem Does.mono {s : Sem Next} {r' : R} {Γ' : Ctx} {M : Nat → Prop} (hd : Does P N Γ w s r) (hk : ∀ e w', EndR N Γ w r e w' → EndR M Γ' w r' e w') : Does P M Γ' w s r' := by
  rcases hd with ⟨val, w', nx, h1, h2, h3⟩ | ⟨val, w', h1, h3⟩ | ⟨g, args, w1, h1, h3⟩
  · exact .inl ⟨val, w', nx, h1, h2, hk _ _ h3⟩
  · exact .inr (.inl ⟨val, w', h1, hk _ _ h3⟩)
  · exact .inr (.inr ⟨g, args, w1, h1, h3.mono hk⟩)

/-! what was run once -/
def SF (P : Program) (N : Nat → Prop) (g : Nat) (args : AV) (h : Hp) (r : R) : Prop := ∀ Γ w vs, Rel N Γ h w → VRs Γ args vs → Does P N Γ w (callFunc g vs.toArray) r
noncomputable def leR (r : R) (v' : AV) (h' : Hp) : Bool := R.rec (motive := fun _ => Bool) (fun _ => false) (fun v h => cond (eqAV v v') (leHp h h') false) (fun _ _ => false) r
theorem SF.of (hm : P.follows .mixedOrders = true) (hs : SumsOK P N sums) {n g : Nat} {args : AV} (e : leR (callN P sums n g args h) v h' = true) : SF P N g args h (.ok v h') := by
  intro Γ w vs hR hv
  cases hc : callN P sums n g args h with
  | fail s => rw [hc] at e; cases e
  | pan _ _ => rw [hc] at e; cases e
  | ok v0 h0 =>
    rw [hc] at e
    obtain ⟨h1, h2⟩ := cond_t (show cond (eqAV v0 v) (leHp h0 h') false = true from e)
    have hv0 := eqAV_eq _ _ h1
    subst hv0
    refine ((callN_ok hm hs n).fn g args h Γ w vs _ hc R.good_ok hR hv).mono fun e w' he => ?_
    cases e with
    | returned val => obtain ⟨Δ, g1, g2, g3, g4⟩ := he; exact ⟨Δ, g1, g2, g3.less h2, g4⟩
    | _ => exact he.elim
/-- a call that was run once, in front of what else there is -/
noncomputable def oracle (g0 : Nat) (a0 : AV) (h0 : Hp) (v1 : AV) (h1 : Hp) (sums : (Nat → AV → Hp → R) → Nat → AV → Hp → R → R) (callR : Nat → AV → Hp → R) (g : Nat) (args : AV) (h : Hp) (els : R) : R :=
  cond (Nat.beq g g0) (cond (Nat.beq h.n h0.n) (cond (eqAV args a0) (cond (leHp h h0) (.ok v1 h1) (sums callR g args h els)) (sums callR g args h els)) (sums callR g args h els)) (sums callR g args h els)
theorem SumsOK.oracle (hs : SumsOK P N sums) {g0 : Nat} {a0 v1 : AV} {h0 h1 : Hp} (ho : SF P N g0 a0 h0 (.ok v1 h1)) : SumsOK P N (oracle g0 a0 h0 v1 h1 sums) := by
  intro callR g args h Γ w vs r hc e hr hR hv
  unfold Ev.oracle at e
  cases k1 : Nat.beq g g0
  · rw [k1, cond_false] at e; exact hs callR g args h Γ w vs r hc e hr hR hv
  rw [k1, cond_true] at e
  cases k0 : Nat.beq h.n h0.n
  · rw [k0, cond_false] at e; exact hs callR g args h Γ w vs r hc e hr hR hv
  rw [k0, cond_true] at e
  cases k2 : eqAV args a0
  · rw [k2, cond_false] at e; exact hs callR g args h Γ w vs r hc e hr hR hv
  rw [k2, cond_true] at e
  cases k3 : leHp h h0
  · rw [k3, cond_false] at e; exact hs callR g args h Γ w vs r hc e hr hR hv
  rw [k3, cond_true] at e
  subst e
  have := Nat.eq_of_beq_eq_true k1
  subst this
  have := eqAV_eq _ _ k2
  subst this
  exact .inr (ho Γ w vs (hR.less k3) hv)

/-! calls that need nothing of the heap -/
def deadH : Hp := ⟨Ev.N.all (Ev.N.all (Ev.N.all (Ev.N.all .dead))), 8⟩
theorem obAt_dead (b n : Nat) : obAt b ⟨deadH.t, n⟩ = .dead := by
  unfold obAt deadH
  simp only [selO_eq, selP_eq, selQ_eq, selS_eq, updO_eq, updP_eq, updQ_eq, updS_eq, sel_all]
/-- a value without blocks -/
noncomputable def plainV (v : AV) : Bool := AV.rec (motive := fun _ => Bool) false (fun _ _ => true) (fun _ => true) (fun _ _ => true) (fun _ _ => true) true (fun _ _ => false) true (fun _ _ _ _ _ _ => false) (fun _ => false) true (fun _ => false) true (fun _ _ _ _ _ => false) true (fun _ _ _ => false) (fun _ _ => false) (fun _ _ => false) false (fun _ _ _ _ => false) v
theorem plainV_mono {Δ : Ctx} {val : Value} (hp : plainV v = true) (hv : VR Δ v val) : VR Γ v val := by
  cases v <;> first | exact (Bool.noConfusion hp) | (simp only [VR] at hv ⊢; exact hv)
noncomputable def firstC (w : World) (hl : 8 ≤ w.heap.size) : Ctx where
  σ := fun b => if b < gN then some (b, 0) else none
  sz := fun c => match w.heap[c]? with | some (.cells arr _ _) => arr.size | _ => 0
  lim := w.heap.size
  nb := 8
  wf := fun b c q hs => by
    change (if b < gN then some (b, 0) else none) = some (c, q) at hs
    split at hs
    · rename_i hb; cases hs; exact Nat.lt_of_lt_of_le hb hl
    · cases hs
theorem Rel.first (w : World) (hl : 8 ≤ w.heap.size) : Rel (fun c => c < w.heap.size) (firstC w hl) deadH w := by
  have hs : ∀ b c q, (firstC w hl).σ b = some (c, q) → b < gN ∧ c = b ∧ q = 0 := fun b c q hs => by
    change (if b < gN then some (b, 0) else none) = some (c, q) at hs
    split at hs
    · rename_i hb; cases hs; exact ⟨hb, rfl, rfl⟩
    · cases hs
  have hd : ∀ b, obAt b deadH = .dead := fun b => obAt_dead b 8
  refine ⟨fun b c q h0 => ?_, fun c arr el fz _ hc => ?_, fun b c q h0 => (hs b c q h0).1, fun b1 b2 c q1 q2 s1 s2 d1 d2 => absurd (hd b1) d1, fun b c q h0 hg => ?_, rfl, by show 8 ≤ 83521; omega, Nat.le_refl _, fun g hg => if_pos hg, fun c hc => hc, rfl, fun b c q t _ ht => by rw [hd b] at ht; cases ht⟩
  · obtain ⟨hb, rfl, rfl⟩ := hs b c q h0
    have hlt : c < w.heap.size := Nat.lt_of_lt_of_le hb hl
    exact ⟨w.heap[c], Array.getElem?_eq_getElem hlt, by rw [hd]; trivial⟩
  · show arr.size = match w.heap[c]? with | some (.cells arr _ _) => arr.size | _ => 0
    rw [hc]
  · exact absurd (hs b c q h0).1 (Nat.not_lt_of_le hg)
theorem Rel.eight (R : Rel N Γ h w) : 8 ≤ w.heap.size := by
  have := Γ.wf 7 7 0 (R.glob 7 (by decide))
  rw [R.lim] at this
  omega
theorem below_less {M B : Nat} (hb : Go.RowKit.Below M w w') (hle : B ≤ M) : Go.RowKit.Below B w w' := ⟨hb.os, hb.tape, hb.output, hb.size, fun k hk => hb.block k (by omega)⟩
theorem Below.all {M : Nat} (hb : Below (fun c => c < M) w w') : Go.RowKit.Below M w w' := ⟨hb.os, hb.tape, hb.output, hb.size, hb.block⟩
def Iso (P : Program) (g : Nat) (v : AV) : Prop := ∀ N Γ h w, Rel N Γ h w → Does P N Γ w (callFunc g #[]) (.ok v h)
noncomputable def okV (r : R) (v' : AV) : Bool := R.rec (motive := fun _ => Bool) (fun _ => false) (fun v _ => eqAV v v') (fun _ _ => false) r
theorem Iso.of (hm : P.follows .mixedOrders = true) (hs : ∀ N, SumsOK P N sums) {n g : Nat} (hp : plainV v = true) (e : okV (callN P sums n g .nl deadH) v = true) : Iso P g v := by
  intro N Γ h w hR
  have hR0 := Rel.first w hR.eight
  cases hc : callN P sums n g .nl deadH with
  | fail s => rw [hc] at e; cases e
  | pan _ _ => rw [hc] at e; cases e
  | ok v0 h0 =>
    rw [hc] at e
    have hv0 := eqAV_eq _ _ (show eqAV v0 v = true from e)
    subst hv0
    have hd := (callN_ok hm (hs fun c => c < w.heap.size) n).fn g .nl deadH _ w [] _ hc R.good_ok hR0 (by simp only [VRs])
    refine Does.mono (N := fun c => c < w.heap.size) (r := .ok v0 h0) hd fun e w' he => ?_
    cases e with
    | returned val =>
      obtain ⟨Θ, g1, g2, g3, g4⟩ := he
      exact ⟨_, Γ.le_grow (by rw [hR.lim]; exact g4.size), plainV_mono hp g2, hR.grown g4.all, g4.less hR.base⟩
    | _ => exact he.elim
/-- a call of a closed function, from whatever world -/
theorem Iso.calls {g : Nat} (hl : 8 ≤ w.heap.size) (hp : plainV v = true) (hi : Iso P g v) (hent : (callFunc g #[]).run P w = .ok (.enter g #[]) w) : Calls P g #[] w fun e w' => ∃ val, e = .returned val ∧ VR (firstC w hl) v val ∧ Go.RowKit.Below w.heap.size w w' := by
  rcases hi (fun c => c < w.heap.size) (firstC w hl) deadH w (Rel.first w hl) with ⟨val, w', nx, h1, h2, h3⟩ | ⟨val, w', h1, h3⟩ | ⟨g', args, w1, h1, h3⟩
  · rw [hent] at h1
    rcases h2 with rfl | ⟨rfl, _⟩ <;> cases h1
  · rw [hent] at h1; cases h1
  · rw [hent] at h1
    cases h1
    refine h3.mono fun e w' he => ?_
    cases e with
    | returned val =>
      obtain ⟨Θ, g1, g2, g3, g4⟩ := he
      exact ⟨val, rfl, plainV_mono hp g2, g4.all⟩
    | _ => exact he.elim
noncomputable def isoS (g0 : Nat) (v1 : AV) (sums : (Nat → AV → Hp → R) → Nat → AV → Hp → R → R) (callR : Nat → AV → Hp → R) (g : Nat) (args : AV) (h : Hp) (els : R) : R :=
  cond (Nat.beq g g0) (args.nlK (sums callR g args h els) (.ok v1 h)) (sums callR g args h els)
theorem SumsOK.iso (hs : SumsOK P N sums) {g0 : Nat} {v1 : AV} (ho : Iso P g0 v1) : SumsOK P N (isoS g0 v1 sums) := by
  intro callR g args h Γ w vs r hc e hr hR hv
  unfold Ev.isoS at e
  cases k1 : Nat.beq g g0
  · rw [k1, cond_false] at e; exact hs callR g args h Γ w vs r hc e hr hR hv
  rw [k1, cond_true] at e
  have := Nat.eq_of_beq_eq_true k1
  subst this
  cases args with
  | nl =>
    have e : Ev.R.ok v1 h = r := e
    subst e
    simp only [VRs] at hv
    subst hv
    exact .inr (ho N Γ h w hR)
  | _ => exact hs callR g _ h Γ w vs r hc e hr hR hv
end
end Go.Ev
