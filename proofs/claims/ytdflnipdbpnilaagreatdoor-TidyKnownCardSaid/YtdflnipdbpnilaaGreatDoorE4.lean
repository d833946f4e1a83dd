/- The evaluator and its soundness, part 4: what it tells of a call of a Go function is what the model does, for every tape. -/
import Derived.Test.YtdflnipdbpnilaaGreatDoorE3
set_option linter.unnecessarySimpa false
set_option linter.unusedVariables false
set_option linter.unusedSimpArgs false
/- Heaps as texts; the sums of this program. -/
namespace Go.Ev
open Go Go.RowKit Go.Proofs

noncomputable def cel1 (n : Nat) (l : AV) : Ob := .cells n (.c1 (of17 l))
noncomputable def celN (n : Nat) (d : AV) (ex : List (Nat × AV)) : Ob := .cells n (List.rec (motive := fun _ => Ct) (ctAll n d) (fun p _ ih => ctSet ih p.1 p.2) ex)
noncomputable def mkH (n : Nat) (l : List (Nat × Ob)) : Hp := ⟨List.rec (motive := fun _ => Ev.N (Ev.N (Ev.N (Ev.N Ob)))) deadH.t (fun p _ ih => setT p.1 p.2 ih) l, n⟩
noncomputable def orR (r s : R) : R := R.rec (motive := fun _ => R) (fun _ => s) R.ok R.pan r
noncomputable def sumsC (callR : Nat → AV → Hp → R) (g : Nat) (args : AV) (h : Hp) (els : R) : R := cond (Nat.ble g 150) els
  (cond (Nat.beq g 264) (evFnB Tryz.prog callR (tabs 264) goodFlag goodFast Tryz.f264 args h) (cond (Nat.beq g 433) (moreF args h els) (cond (Nat.beq g 151) (wordR args h els) (cond (Nat.beq g 372) (evFnB Tryz.prog callR (tabs 372) rngFlag (rngFastQ Tryz.prog callR (tabs 372)) Tryz.f372 args h) (cond (Nat.beq g 281) (noPan (orR (sortedR 366 args h) (orR (sortedR 464 args h) (sortedR 497 args h)))) (cond (Nat.beq g 380) (noPan (noneR 296 args h)) (cond (Nat.beq g 252) (noPan (noneR 253 args h)) (cond (Nat.beq g 390) (noPan (cmpR args h)) (cond (Nat.beq g 406) (noPan (fbR args h)) (cond (Nat.beq g 408) (noPan (bfR args h)) els))))))))))
end Go.Ev

/- Runs in pieces, heaps as lists of their live blocks. -/
namespace Go.Ev
open Go Go.RowKit

abbrev HL := List (Nat × Ob)
noncomputable def hasB (b : Nat) (l : HL) : Bool := List.rec (motive := fun _ => Bool) false (fun p _ ih => cond (Nat.beq p.1 b) true ih) l
noncomputable def hasN (b : Nat) (l : List Nat) : Bool := List.rec (motive := fun _ => Bool) false (fun p _ ih => cond (Nat.beq p b) true ih) l
/-- a list with other blocks in place of some, and without some -/
noncomputable def mergeL (ch : HL) (gone : List Nat) (old : HL) : HL := List.rec (motive := fun _ => HL) ch (fun p _ ih => cond (hasB p.1 ch) ih (cond (hasN p.1 gone) ih (p :: ih))) old
noncomputable def leL (h : Hp) (l : HL) : Bool := List.rec (motive := fun _ => Bool) true (fun p _ ih => cond (Nat.ble p.1 83520) (cond (leOb p.2 (obAt p.1 h)) ih false) false) l
noncomputable def leHpL (h : Hp) (n : Nat) (l : HL) : Bool := cond (Nat.beq h.n n) (leL h l) false
noncomputable def leRL (r : R) (v' : AV) (n : Nat) (l : HL) : Bool := R.rec (motive := fun _ => Bool) (fun _ => false) (fun v h => cond (eqAV v v') (leHpL h n l) false) (fun _ _ => false) r
theorem leL_spec {h : Hp} {n : Nat} : ∀ (l : HL), leL h l = true → ∀ b, b < 83521 → leOb (obAt b (mkH n l)) (obAt b h) = true
  | [], _, b, hb => by
    show leOb (obAt b ⟨deadH.t, n⟩) _ = true
    rw [obAt_dead]; rfl
  | p :: l, e, b, hb => by
    obtain ⟨h1, e1⟩ := cond_t (show cond (Nat.ble p.1 83520) (cond (leOb p.2 (obAt p.1 h)) (leL h l) false) false = true from e)
    obtain ⟨h2, e2⟩ := cond_t e1
    have hp : p.1 < 83521 := Nat.lt_succ_of_le (Nat.le_of_ble_eq_true h1)
    show leOb (obAt b ⟨setT p.1 p.2 (mkH n l).t, n⟩) _ = true
    by_cases hbp : p.1 = b
    · subst hbp; rw [obAt_setT_same]; exact h2
    · rw [obAt_setT_ne _ _ _ hp hb hbp]
      exact leL_spec (n := n) l e2 b hb
theorem leHp_of_all {h h' : Hp} (hn : h.n = h'.n) (hle : ∀ b, b < h.n → leOb (obAt b h') (obAt b h) = true) : leHp h h' = true := by
  have : ∀ k, k ≤ h.n → leHpN h h' k = true := by
    intro k
    induction k with
    | zero => intro _; rfl
    | succ k ih =>
      intro hk
      show cond (leOb (obAt k h') (obAt k h)) (leHpN h h' k) false = true
      rw [hle k (by omega), ih (by omega)]; rfl
  show cond (Nat.beq h.n h'.n) (leHpN h h' h.n) false = true
  rw [this h.n (Nat.le_refl _), hn, Nat.beq_refl]; rfl
section
variable {P : Program} {N : Nat} {Γ : Ctx} {h h' : Hp} {w w' : World} {v v' : AV} {r : R} {callR : Nat → AV → Hp → R} {sums : (Nat → AV → Hp → R) → Nat → AV → Hp → R → R}
theorem Rel.lessL (R : Rel N Γ h w) {n : Nat} {l : HL} (e : leHpL h n l = true) : Rel N Γ (mkH n l) w := by
  obtain ⟨h1, h2⟩ := cond_t (show cond (Nat.beq h.n n) (leL h l) false = true from e)
  have hn := Nat.eq_of_beq_eq_true h1
  exact R.less (leHp_of_all hn fun b hb => leL_spec l h2 b (Nat.lt_of_lt_of_le hb R.hn))
theorem SF.ofL (hm : P.follows .mixedOrders = true) (hs : SumsOK P N sums) {k g n : Nat} {args : AV} {l : HL} (e : leRL (callN P sums k g args h) v n l = true) : SF P N g args h (.ok v (mkH n l)) := by
  intro Γ w vs hR hv
  cases hc : callN P sums k g args h with
  | fail s => rw [hc] at e; cases e
  | pan _ _ => rw [hc] at e; cases e
  | ok v0 h0 =>
    rw [hc] at e
    obtain ⟨h1, h2⟩ := cond_t (show cond (eqAV v0 v) (leHpL h0 n l) false = true from e)
    have hv0 := eqAV_eq _ _ h1
    subst hv0
    refine (callN_ok hm hs k g args h Γ w vs _ hc R.good_ok hR hv).mono fun e w' he => ?_
    cases e with
    | returned val => obtain ⟨Δ, g1, g2, g3, g4⟩ := he; exact ⟨Δ, g1, g2, g3.lessL h2, g4⟩
    | _ => exact he.elim
noncomputable def oracleL (g0 : Nat) (a0 : AV) (n0 : Nat) (l0 : HL) (v1 : AV) (n1 : Nat) (l1 : HL) (sums : (Nat → AV → Hp → R) → Nat → AV → Hp → R → R) (callR : Nat → AV → Hp → R) (g : Nat) (args : AV) (h : Hp) (els : R) : R :=
  cond (Nat.beq g g0) (cond (Nat.beq h.n n0) (cond (eqAV args a0) (cond (leHpL h n0 l0) (.ok v1 (mkH n1 l1)) (sums callR g args h els)) (sums callR g args h els)) (sums callR g args h els)) (sums callR g args h els)
theorem SumsOK.oracleL (hs : SumsOK P N sums) {g0 n0 n1 : Nat} {a0 v1 : AV} {l0 l1 : HL} (ho : SF P N g0 a0 (mkH n0 l0) (.ok v1 (mkH n1 l1))) : SumsOK P N (oracleL g0 a0 n0 l0 v1 n1 l1 sums) := by
  intro callR g args h Γ w vs r hc e hr hR hv
  unfold Ev.oracleL at e
  cases k1 : Nat.beq g g0
  · rw [k1, cond_false] at e; exact hs callR g args h Γ w vs r hc e hr hR hv
  rw [k1, cond_true] at e
  cases k0 : Nat.beq h.n n0
  · rw [k0, cond_false] at e; exact hs callR g args h Γ w vs r hc e hr hR hv
  rw [k0, cond_true] at e
  cases k2 : eqAV args a0
  · rw [k2, cond_false] at e; exact hs callR g args h Γ w vs r hc e hr hR hv
  rw [k2, cond_true] at e
  cases k3 : leHpL h n0 l0
  · rw [k3, cond_false] at e; exact hs callR g args h Γ w vs r hc e hr hR hv
  rw [k3, cond_true] at e
  subst e
  have := Nat.eq_of_beq_eq_true k1
  subst this
  have := eqAV_eq _ _ k2
  subst this
  exact .inr (ho Γ w vs (hR.lessL k3) hv)
end
end Go.Ev

/- Runs in pieces: what a piece leaves is numbered anew. -/
namespace Go.Ev
open Go Go.RowKit

/-- the i-th number of a list; else one that no block has -/
noncomputable def nthN (l : List Nat) : Nat → Nat := List.rec (motive := fun _ => Nat → Nat) (fun _ => 99999) (fun x _ ih i => Nat.rec (motive := fun _ => Nat) x (fun j _ => ih j) i) l
/-- the old number of a block: those from n0 on are told by the list -/
noncomputable def rnB (n0 : Nat) (l : List Nat) (b : Nat) : Nat := cond (Nat.ble (Nat.succ b) n0) b (nthN l (Nat.sub b n0))
noncomputable def rnAV (n0 : Nat) (l : List Nat) (v : AV) : AV := AV.rec (motive := fun _ => AV) .top (fun k z => .int k z) (fun b => .bool b) (fun k b => .flt k b) (fun n s => .str n s) .nilp (fun b o => .ptr (rnB n0 l b) o) .nils (fun b o n c es ex => .slc (rnB n0 l b) o n c es ex) (fun n => .slx n) .nilm (fun b => .map (rnB n0 l b)) .nilf (fun f _ _ a c => .fn f a c) .nili (fun t _ x => .ifc t x) (fun _ x => .agg x) (fun _ x => .tup x) .nl (fun _ _ a r => .cn a r) v
noncomputable def rnCells (n0 : Nat) (l : List Nat) (n : Nat) (t u : Ct) : Bool := Nat.rec (motive := fun _ => Bool) true (fun i ih => cond (eqAV (ctAt u i) (rnAV n0 l (ctAt t i))) ih false) n
noncomputable def rnMEs (n0 : Nat) (l : List Nat) : List ME → List ME → Bool
  | [], [] => true
  | a :: r, b :: s => cond (eqAV b.k (rnAV n0 l a.k)) (cond (eqAV b.v (rnAV n0 l a.v)) (cond (Nat.beq a.born b.born) (rnMEs n0 l r s) false) false) false
  | _, _ => false
/-- the first, in new numbers, tells no more than the second -/
noncomputable def rnOb (n0 : Nat) (l : List Nat) : Ob → Ob → Bool
  | .dead, _ => true
  | .cells n t, .cells m u => cond (Nat.beq n m) (cond (fitsB t n) (rnCells n0 l n t u) false) false
  | .bytes n x, .bytes m y => cond (Nat.beq n m) (Nat.beq x y) false
  | .map es c, .map fs d => cond (Nat.beq c d) (rnMEs n0 l es fs) false
  | _, _ => false
/-- rising, from a number on, all small -/
noncomputable def risesB (l : List Nat) : Nat → Bool := List.rec (motive := fun _ => Nat → Bool) (fun _ => true) (fun x _ ih k => cond (Nat.ble k x) (cond (Nat.ble x 83520) (ih (Nat.succ x)) false) false) l
noncomputable def leLR (n0 : Nat) (ol : List Nat) (h : Hp) (l : HL) : Bool := List.rec (motive := fun _ => Bool) true (fun p _ ih => cond (Nat.ble p.1 83520) (cond (rnOb n0 ol p.2 (obAt (rnB n0 ol p.1) h)) ih false) false) l
noncomputable def leRR (r : R) (n0 : Nat) (ol : List Nat) (v' : AV) (l : HL) : Bool := R.rec (motive := fun _ => Bool) (fun _ => false) (fun v h => cond (eqAV v (rnAV n0 ol v')) (cond (risesB ol n0) (cond (Nat.ble (Nat.add n0 ol.length) 83521) (leLR n0 ol h l) false) false) false) (fun _ _ => false) r

theorem nthN_ge : ∀ (l : List Nat) (i : Nat), l.length ≤ i → nthN l i = 99999
  | [], i, _ => rfl
  | x :: l, 0, hi => by simp at hi
  | x :: l, i + 1, hi => nthN_ge l i (by simpa using hi)
theorem risesB_spec : ∀ (l : List Nat) (k : Nat), risesB l k = true → (∀ i, i < l.length → k ≤ nthN l i ∧ nthN l i ≤ 83520) ∧ ∀ i j, i < l.length → j < l.length → nthN l i = nthN l j → i = j
  | [], k, _ => ⟨fun i hi => by simp at hi, fun i j hi => by simp at hi⟩
  | x :: l, k, e => by
    obtain ⟨h1, e1⟩ := cond_t (show cond (Nat.ble k x) (cond (Nat.ble x 83520) (risesB l (Nat.succ x)) false) false = true from e)
    obtain ⟨h2, e2⟩ := cond_t e1
    have h1 := Nat.le_of_ble_eq_true h1
    have h2 := Nat.le_of_ble_eq_true h2
    obtain ⟨g1, g2⟩ := risesB_spec l (Nat.succ x) e2
    refine ⟨fun i hi => ?_, fun i j hi hj he => ?_⟩
    · cases i with
      | zero => exact ⟨h1, h2⟩
      | succ i =>
        have := g1 i (by simpa using hi)
        refine ⟨?_, this.2⟩
        show k ≤ nthN l i
        have := this.1
        omega
    · cases i with
      | zero =>
        cases j with
        | zero => rfl
        | succ j =>
          have := (g1 j (by simpa using hj)).1
          have he : x = nthN l j := he
          omega
      | succ i =>
        cases j with
        | zero =>
          have := (g1 i (by simpa using hi)).1
          have he : nthN l i = x := he
          omega
        | succ j => rw [g2 i j (by simpa using hi) (by simpa using hj) he]
section
variable {P : Program} {N : Nat} {Γ Δ : Ctx} {h h' : Hp} {w w' : World} {v v' : AV} {r : R} {n0 : Nat} {ol : List Nat} {callR : Nat → AV → Hp → R} {sums : (Nat → AV → Hp → R) → Nat → AV → Hp → R → R}
noncomputable def newC (Δ : Ctx) (n0 : Nat) (ol : List Nat) : Ctx where
  σ := fun b => Δ.σ (rnB n0 ol b)
  sz := Δ.sz
  lim := Δ.lim
  nb := n0 + ol.length
  wf := fun b c q hs => Δ.wf _ c q hs
theorem rnAV_vals : ∀ x : AV, (∀ v, VR Δ (rnAV n0 ol x) v → VR (newC Δ n0 ol) x v) ∧ (∀ vs, VRs Δ (rnAV n0 ol x) vs → VRs (newC Δ n0 ol) x vs) := by
  intro x
  induction x with
  | ptr b o =>
    refine ⟨fun v hv => ?_, fun vs hv => by simp [rnAV, VRs] at hv⟩
    have hv : VR Δ (.ptr (rnB n0 ol b) o) v := hv
    simp only [VR] at hv ⊢
    exact hv
  | slc b o n c es ex =>
    refine ⟨fun v hv => ?_, fun vs hv => by simp [rnAV, VRs] at hv⟩
    have hv : VR Δ (.slc (rnB n0 ol b) o n c es ex) v := hv
    simp only [VR] at hv ⊢
    exact hv
  | map b =>
    refine ⟨fun v hv => ?_, fun vs hv => by simp [rnAV, VRs] at hv⟩
    have hv : VR Δ (.map (rnB n0 ol b)) v := hv
    simp only [VR] at hv ⊢
    exact hv
  | fn f a c iha ihc =>
    refine ⟨fun v hv => ?_, fun vs hv => by simp [rnAV, VRs] at hv⟩
    have hv : VR Δ (.fn f (rnAV n0 ol a) (rnAV n0 ol c)) v := hv
    simp only [VR] at hv ⊢
    obtain ⟨fs, cs, rfl, h1, h2⟩ := hv
    exact ⟨fs, cs, rfl, iha.2 _ h1, ihc.2 _ h2⟩
  | ifc t x ih =>
    refine ⟨fun v hv => ?_, fun vs hv => by simp [rnAV, VRs] at hv⟩
    have hv : VR Δ (.ifc t (rnAV n0 ol x)) v := hv
    simp only [VR] at hv ⊢
    obtain ⟨u, rfl, h1⟩ := hv
    exact ⟨u, rfl, ih.1 _ h1⟩
  | agg l ih =>
    refine ⟨fun v hv => ?_, fun vs hv => by simp [rnAV, VRs] at hv⟩
    have hv : VR Δ (.agg (rnAV n0 ol l)) v := hv
    simp only [VR] at hv ⊢
    obtain ⟨cs, rfl, h1⟩ := hv
    exact ⟨cs, rfl, ih.2 _ h1⟩
  | tup l ih =>
    refine ⟨fun v hv => ?_, fun vs hv => by simp [rnAV, VRs] at hv⟩
    have hv : VR Δ (.tup (rnAV n0 ol l)) v := hv
    simp only [VR] at hv ⊢
    obtain ⟨cs, rfl, h1⟩ := hv
    exact ⟨cs, rfl, ih.2 _ h1⟩
  | cn a l iha ihl =>
    refine ⟨fun v hv => by simp [rnAV, VR] at hv, fun vs hv => ?_⟩
    have hv : VRs Δ (.cn (rnAV n0 ol a) (rnAV n0 ol l)) vs := hv
    simp only [VRs] at hv ⊢
    obtain ⟨v, r, rfl, h1, h2⟩ := hv
    exact ⟨v, r, rfl, iha.1 _ h1, ihl.2 _ h2⟩
  | nl => exact ⟨fun v hv => by simp [rnAV, VR] at hv, fun vs hv => by have hv : VRs Δ .nl vs := hv; simp only [VRs] at hv ⊢; exact hv⟩
  | _ => exact ⟨fun v hv => by simpa only [rnAV, VR] using hv, fun vs hv => by simp [rnAV, VRs] at hv⟩
theorem rnCells_spec {t u : Ct} : ∀ n, rnCells n0 ol n t u = true → ∀ i, i < n → ctAt u i = rnAV n0 ol (ctAt t i)
  | 0, _, i, h => by omega
  | n + 1, e, i, h => by
    obtain ⟨h1, h2⟩ := cond_t (show cond (eqAV (ctAt u n) (rnAV n0 ol (ctAt t n))) (rnCells n0 ol n t u) false = true from e)
    by_cases hi : i = n
    · subst hi; exact eqAV_eq _ _ h1
    · exact rnCells_spec n h2 i (by omega)
theorem rnMEs_spec : ∀ (es fs : List ME), rnMEs n0 ol es fs = true → ∀ ms, MEs Δ fs ms → MEs (newC Δ n0 ol) es ms
  | [], [], _, ms, hm => hm
  | a :: r, b :: s, e, ms, hm => by
    unfold rnMEs at e
    obtain ⟨h1, e1⟩ := cond_t e
    obtain ⟨h2, e2⟩ := cond_t e1
    obtain ⟨h3, e3⟩ := cond_t e2
    simp only [MEs] at hm ⊢
    obtain ⟨m, t, rfl, k1, k2, k3, k4⟩ := hm
    rw [eqAV_eq _ _ h1] at k1
    rw [eqAV_eq _ _ h2] at k2
    exact ⟨m, t, rfl, (rnAV_vals _).1 _ k1, (rnAV_vals _).1 _ k2, k3.trans (Nat.eq_of_beq_eq_true h3).symm, rnMEs_spec r s e3 t k4⟩
  | [], _ :: _, e, _, _ => by unfold rnMEs at e; cases e
  | _ :: _, [], e, _, _ => by unfold rnMEs at e; cases e
theorem rnOb_spec {o u : Ob} (e : rnOb n0 ol o u = true) : o = .dead ∨ (u ≠ .dead ∧ (∀ q obj, OR Δ q obj u → OR (newC Δ n0 ol) q obj o) ∧ ∀ t, o = .cells 1 t → ∃ t', u = .cells 1 t') := by
  unfold rnOb at e
  split at e
  · exact .inl rfl
  · rename_i n t m u
    obtain ⟨h1, e1⟩ := cond_t e
    obtain ⟨h2, e2⟩ := cond_t e1
    have := Nat.eq_of_beq_eq_true h1
    subst this
    refine .inr ⟨(fun hh => by cases hh), fun q obj hor => ?_, fun t' ht => by cases ht; exact ⟨_, rfl⟩⟩
    obtain ⟨_, arr, el, k1, k2, k3⟩ := hor
    refine ⟨fitsB_spec h2, arr, el, k1, k2, fun i hi => ?_⟩
    obtain ⟨x, k4, k5⟩ := k3 i hi
    rw [rnCells_spec n e2 i hi] at k5
    exact ⟨x, k4, (rnAV_vals _).1 _ k5⟩
  · rename_i n x m y
    obtain ⟨h1, e1⟩ := cond_t e
    rw [Nat.eq_of_beq_eq_true h1, Nat.eq_of_beq_eq_true e1]
    exact .inr ⟨(fun hh => by cases hh), fun q obj hor => hor, fun t ht => by cases ht⟩
  · rename_i es c fs d
    obtain ⟨h1, e1⟩ := cond_t e
    have := Nat.eq_of_beq_eq_true h1
    subst this
    refine .inr ⟨(fun hh => by cases hh), fun q obj hor => ?_, fun t ht => by cases ht⟩
    obtain ⟨hq, arr, k1, k2⟩ := hor
    exact ⟨hq, arr, k1, rnMEs_spec es fs e1 _ k2⟩
  · cases e
theorem leLR_spec {n : Nat} : ∀ (l : HL), leLR n0 ol h l = true → ∀ b, b < 83521 → rnOb n0 ol (obAt b (mkH n l)) (obAt (rnB n0 ol b) h) = true
  | [], _, b, hb => by
    show rnOb n0 ol (obAt b ⟨deadH.t, n⟩) _ = true
    rw [obAt_dead]; rfl
  | p :: l, e, b, hb => by
    obtain ⟨h1, e1⟩ := cond_t (show cond (Nat.ble p.1 83520) (cond (rnOb n0 ol p.2 (obAt (rnB n0 ol p.1) h)) (leLR n0 ol h l) false) false = true from e)
    obtain ⟨h2, e2⟩ := cond_t e1
    have hp : p.1 < 83521 := Nat.lt_succ_of_le (Nat.le_of_ble_eq_true h1)
    show rnOb n0 ol (obAt b ⟨setT p.1 p.2 (mkH n l).t, n⟩) _ = true
    by_cases hbp : p.1 = b
    · subst hbp; rw [obAt_setT_same]; exact h2
    · rw [obAt_setT_ne _ _ _ hp hb hbp]
      exact leLR_spec (n := n) l e2 b hb
theorem rnB_lt {b : Nat} (hb : b < n0) : rnB n0 ol b = b := by
  unfold rnB; rw [show Nat.ble (Nat.succ b) n0 = true from Nat.ble_eq_true_of_le hb]; rfl
theorem rnB_ge {b : Nat} (hb : n0 ≤ b) : rnB n0 ol b = nthN ol (b - n0) := by
  unfold rnB
  cases hh : Nat.ble (Nat.succ b) n0
  · rfl
  · exact absurd (Nat.le_of_ble_eq_true hh) (by omega)
/-- what a call leaves, in new numbers -/
theorem Rel.renum (R0 : Rel N Γ h w) (R : Rel N Δ h' w') (hle : Γ.Le Δ) (hn : h.n = n0) (hri : risesB ol n0 = true) (hsm : n0 + ol.length ≤ 83521) {l : HL} (hl : leLR n0 ol h' l = true) :
    Γ.Le (newC Δ n0 ol) ∧ Rel N (newC Δ n0 ol) (mkH (n0 + ol.length) l) w' := by
  obtain ⟨r1, r2⟩ := risesB_spec ol n0 hri
  have hG : Γ.nb = n0 := by rw [R0.nb, hn]
  have hdn : ∀ b c q, Δ.σ b = some (c, q) → b ≤ 83520 := fun b c q hs => by
    have h1 := R.bnd b c q hs
    have h2 := R.hn
    omega
  have hin : ∀ b c q, (newC Δ n0 ol).σ b = some (c, q) → b < n0 + ol.length := fun b c q hs => by
    have hs : Δ.σ (rnB n0 ol b) = some (c, q) := hs
    by_cases hb : b < n0 + ol.length
    · exact hb
    · rw [rnB_ge (by omega), nthN_ge ol _ (by omega)] at hs
      exact absurd (hdn _ _ _ hs) (by omega)
  have hge : ∀ b, n0 ≤ b → b < n0 + ol.length → n0 ≤ rnB n0 ol b := fun b h1 h2 => by
    rw [rnB_ge h1]; exact (r1 (b - n0) (by omega)).1
  have hinj : ∀ b c, b < n0 + ol.length → c < n0 + ol.length → rnB n0 ol b = rnB n0 ol c → b = c := fun b c hb hc he => by
    by_cases h1 : b < n0 <;> by_cases h2 : c < n0
    · rw [rnB_lt h1, rnB_lt h2] at he; exact he
    · have := hge c (by omega) hc
      rw [← he, rnB_lt h1] at this; omega
    · have := hge b (by omega) hb
      rw [he, rnB_lt h2] at this; omega
    · rw [rnB_ge (by omega), rnB_ge (by omega)] at he
      have := r2 (b - n0) (c - n0) (by omega) (by omega) he
      omega
  have hob := fun b (hb : b < n0 + ol.length) => rnOb_spec (Δ := Δ) (leLR_spec (n := n0 + ol.length) l hl b (by omega))
  refine ⟨⟨fun b x hs => ?_, hle.lim, hle.sz, by rw [hG]; exact Nat.le_add_right _ _, fun b hb hs => ?_⟩, ?_⟩
  · have hb : b < n0 := by have := R0.bnd b x.1 x.2 hs; omega
    show Δ.σ (rnB n0 ol b) = some x
    rw [rnB_lt hb]; exact hle.σ b x hs
  · rw [hG] at hb
    show Δ.σ (rnB n0 ol b) = none
    rw [rnB_lt hb]; exact hle.none b (by rw [hG]; exact hb) hs
  · refine ⟨fun b c q hs => ?_, R.szs, fun b c q hs => hin b c q hs, fun b1 b2 c q1 q2 s1 s2 d1 d2 => ?_, fun b c q hs hg => ?_, R.lim, hsm, ?_, fun g hg => ?_, R.base, rfl, fun b c q t hs ht => ?_⟩
    · obtain ⟨obj, k1, k2⟩ := R.live _ c q (show Δ.σ (rnB n0 ol b) = some (c, q) from hs)
      refine ⟨obj, k1, ?_⟩
      rcases hob b (hin b c q hs) with hd | ⟨_, hor, _⟩
      · rw [hd]; trivial
      · exact hor q obj k2
    · have key : ∀ b c q, (newC Δ n0 ol).σ b = some (c, q) → obAt b (mkH (n0 + ol.length) l) ≠ .dead → obAt (rnB n0 ol b) h' ≠ .dead := fun b c q hs hd => by
        rcases hob b (hin b c q hs) with hd' | ⟨hu, _⟩
        · exact absurd hd' hd
        · exact hu
      exact hinj _ _ (hin _ _ _ s1) (hin _ _ _ s2) (R.sep _ _ c q1 q2 s1 s2 (key _ _ _ s1 d1) (key _ _ _ s2 d2))
    · have hs' : Δ.σ (rnB n0 ol b) = some (c, q) := hs
      refine R.own _ c q hs' ?_
      by_cases hb : b < n0
      · rw [rnB_lt hb]; exact hg
      · have h1 := hge b (by omega) (hin b c q hs)
        have h2 := R0.gn
        omega
    · have := R0.gn
      show gN ≤ n0 + ol.length
      omega
    · have hg0 : g < n0 := by have := R0.gn; omega
      show Δ.σ (rnB n0 ol g) = some (g, 0)
      rw [rnB_lt hg0]; exact R.glob g hg
    · rcases hob b (hin b c q hs) with hd | ⟨_, _, h1⟩
      · rw [hd] at ht; cases ht
      · obtain ⟨t', ht'⟩ := h1 t ht
        exact R.one _ c q t' hs ht'
theorem SF.ofR (hm : P.follows .mixedOrders = true) (hs : SumsOK P N sums) {k g : Nat} {args : AV} {l0 l : HL} (e : leRR (callN P sums k g args (mkH n0 l0)) n0 ol v l = true) : SF P N g args (mkH n0 l0) (.ok v (mkH (n0 + ol.length) l)) := by
  intro Γ w vs hR hv
  cases hc : callN P sums k g args (mkH n0 l0) with
  | fail s => rw [hc] at e; cases e
  | pan _ _ => rw [hc] at e; cases e
  | ok v0 h0 =>
    rw [hc] at e
    obtain ⟨h1, e1⟩ := cond_t (show cond (eqAV v0 (rnAV n0 ol v)) (cond (risesB ol n0) (cond (Nat.ble (Nat.add n0 ol.length) 83521) (leLR n0 ol h0 l) false) false) false = true from e)
    obtain ⟨h2, e2⟩ := cond_t e1
    obtain ⟨h3, h4⟩ := cond_t e2
    have hv0 := eqAV_eq _ _ h1
    subst hv0
    refine (callN_ok hm hs k g args (mkH n0 l0) Γ w vs _ hc R.good_ok hR hv).mono fun e w' he => ?_
    cases e with
    | returned val =>
      obtain ⟨Δ, g1, g2, g3, g4⟩ := he
      obtain ⟨q1, q2⟩ := Rel.renum (n0 := n0) (ol := ol) hR g3 g1 rfl h2 (Nat.le_of_ble_eq_true h3) h4
      exact ⟨_, q1, (rnAV_vals _).1 _ g2, q2, g4⟩
    | _ => exact he.elim
end
end Go.Ev

/- Pieces by the evaluator without looks; short words for heaps as texts. -/
namespace Go.Ev
open Go Go.RowKit
section
variable {P : Program} {N : Nat} {v : AV} {tabs : Nat → Nat → List St} {sums : (Nat → AV → Hp → R) → Nat → AV → Hp → R → R}
theorem SF.ofQ (hok : fnsOK P tabs P.funcs.toList 0 = true) (hm : P.follows .mixedOrders = true) (hs : SumsOK P N sums) {n0 k g : Nat} {ol : List Nat} {args : AV} {l0 l : HL} (e : leRR (callQ P tabs sums k g args (mkH n0 l0)) n0 ol v l = true) : SF P N g args (mkH n0 l0) (.ok v (mkH (n0 + ol.length) l)) :=
  SF.ofR hm hs (by rw [← callQ_eq hok]; exact e)
theorem Iso.ofQ (hok : fnsOK P tabs P.funcs.toList 0 = true) (hm : P.follows .mixedOrders = true) (hs : ∀ N, SumsOK P N sums) {n g : Nat} (hp : plainV v = true) (e : okV (callQ P tabs sums n g .nl deadH) v = true) : Iso P g v :=
  Iso.of hm hs hp (by rw [← callQ_eq hok]; exact e)
end
def vi (n : Nat) : AV := .int .i64 (.ofNat n)
def vu (n : Nat) : AV := .int .u64 (.ofNat n)
def vm (n : Nat) : AV := .int .i64 (.negSucc n)
noncomputable def vl (l : List AV) : AV := List.rec (motive := fun _ => AV) .nl (fun a _ ih => .cn a ih) l
noncomputable def va (l : List AV) : AV := .agg (vl l)
noncomputable def vt (l : List AV) : AV := .tup (vl l)
noncomputable def c1 (n : Nat) (l : List AV) : Ob := cel1 n (vl l)
end Go.Ev

/- Two truths in one; objects told as changes of others. -/
namespace Go.Ev
open Go
theorem and_l {a b : Bool} (h : and a b = true) : a = true := by cases a <;> first | rfl | cases h
theorem and_r {a b : Bool} (h : and a b = true) : b = true := by cases a <;> first | exact h | cases h
noncomputable def ctPut (t : Ct) (l : List (Nat × AV)) : Ct := List.rec (motive := fun _ => Ct) t (fun p _ ih => ctSet ih p.1 p.2) l
/-- other cells in some places -/
noncomputable def celU (o : Ob) (l : List (Nat × AV)) : Ob := Ob.rec (motive := fun _ => Ob) .none (fun n t => .cells n (ctPut t l)) .bytes .map .miter .siter .dead o
/-- a longer row -/
noncomputable def celG (n : Nat) (d : AV) (o : Ob) (l : List (Nat × AV)) : Ob := Ob.rec (motive := fun _ => Ob) .none (fun m t => .cells n (ctPut (Nat.rec (motive := fun _ => Ct) (ctAll n d) (fun i ih => ctSet ih i (ctAt t i)) m) l)) .bytes .map .miter .siter .dead o
noncomputable def meOf (e : ME) (l : List ME) : ME := List.rec (motive := fun _ => ME) e (fun x _ ih => cond (Nat.beq x.born e.born) x ih) l
noncomputable def meIn (b : Nat) (l : List Nat) : Bool := List.rec (motive := fun _ => Bool) false (fun x _ ih => cond (Nat.beq x b) true ih) l
noncomputable def mesU (es rep app : List ME) (gone : List Nat) : List ME := List.rec (motive := fun _ => List ME) app (fun e _ ih => cond (meIn e.born gone) ih (meOf e rep :: ih)) es
/-- a map with other entries -/
noncomputable def mapU (o : Ob) (rep app : List ME) (gone : List Nat) (clock : Nat) : Ob := Ob.rec (motive := fun _ => Ob) .none .cells .bytes (fun es _ => .map (mesU es rep app gone) clock) .miter .siter .dead o
end Go.Ev

/- What stands for hot functions of this program tells the truth. -/
namespace Go.Ev
open Go Go.RowKit Go.Proofs

theorem moreT : MoreT Tryz.prog := ⟨by kernel_rfl, by kernel_rfl, by kernel_rfl, by kernel_rfl, by kernel_rfl⟩
theorem goodT : GoodT Tryz.prog := ⟨by kernel_rfl, by kernel_rfl, by kernel_rfl⟩
theorem wordT : WordT Tryz.prog := ⟨by kernel_rfl, by kernel_rfl, by kernel_rfl, by kernel_rfl, by kernel_rfl⟩
theorem rngT : RngT Tryz.prog := ⟨by kernel_rfl, by kernel_rfl, by kernel_rfl, by kernel_rfl, by kernel_rfl, by kernel_rfl, by kernel_rfl, by kernel_rfl, by kernel_rfl, by kernel_rfl, by kernel_rfl, by kernel_rfl, by kernel_rfl, by kernel_rfl, by kernel_rfl⟩
theorem plansOK : fnsOK Tryz.prog tabs Tryz.prog.funcs.toList 0 = true := by kernel_rfl
theorem rngPlan : codeOK Tryz.prog (tabs 372) rngIn = true := by kernel_rfl
theorem slow_of {callR : Nat → AV → Hp → R} {g : Nat} {fn : Func} (hf : Tryz.prog.funcs[g]? = some fn) (hn : isNG fn = false) (args : AV) (h : Hp) : slowR Tryz.prog callR g args h = evFn Tryz.prog callR fn args h := by
  unfold slowR
  rw [hf]
  show cond (isNG fn) _ _ = _
  rw [hn]; rfl
theorem orR_inv {r s : R} {v : AV} {h : Hp} (e : orR r s = .ok v h) : r = .ok v h ∨ s = .ok v h := by
  cases r with
  | fail w => exact .inr e
  | ok v' h' => exact .inl e
  | pan v' h' => cases e
theorem sumsC_ok (N : Nat) : SumsOK Tryz.prog N sumsC := by
  intro callR g args h Γ w vs r hc e hr hR hv
  unfold sumsC at e
  cases h0 : Nat.ble g 150
  rotate_left
  · rw [h0, cond_true] at e; exact .inl e
  rw [h0, cond_false] at e
  cases h1 : Nat.beq g 264
  rotate_left
  · have := Nat.eq_of_beq_eq_true h1; subst this
    rw [h1, cond_true] at e
    rw [evFnB_eq (fns_at plansOK Tryz.func264) (c := goodCode) rfl, evFnA_eq (g := goodIn) (c := goodCode) rfl goodFlag_ok (fun f h => goodFast_eq goodT f h)] at e
    exact .inl ((slow_of Tryz.func264 (by kernel_rfl) args h).trans e)
  rw [h1, cond_false] at e
  cases h2 : Nat.beq g 433
  rotate_left
  · have := Nat.eq_of_beq_eq_true h2; subst this
    rw [h2, cond_true] at e
    rw [moreF_eq, moreR_eq (P := Tryz.prog) (callR := callR) moreT (slow_of Tryz.func433 (by kernel_rfl) args h)] at e
    exact .inl e
  rw [h2, cond_false] at e
  cases h3 : Nat.beq g 151
  rotate_left
  · have := Nat.eq_of_beq_eq_true h3; subst this
    rw [h3, cond_true] at e
    rw [wordR_eq (P := Tryz.prog) (callR := callR) wordT (slow_of Tryz.func151 (by kernel_rfl) args h)] at e
    exact .inl e
  rw [h3, cond_false] at e
  cases h4 : Nat.beq g 372
  rotate_left
  · have := Nat.eq_of_beq_eq_true h4; subst this
    rw [h4, cond_true] at e
    rw [evFnB_eq (fns_at plansOK Tryz.func372) (c := rngCode) rfl, evFnA_eq (g := rngIn) (c := rngCode) rfl rngFlag_ok (fun f h => rngFastQ_eq rngT rngPlan f h)] at e
    exact .inl ((slow_of Tryz.func372 (by kernel_rfl) args h).trans e)
  rw [h4, cond_false] at e
  cases h5 : Nat.beq g 281
  rotate_left
  · have := Nat.eq_of_beq_eq_true h5; subst this
    rw [h5, cond_true] at e
    obtain ⟨v, h', e1, rfl⟩ := noPan_inv e hr
    rcases orR_inv e1 with e1 | e1
    · exact .inr (sortedR_does Tryz.sortedC hR hv e1)
    rcases orR_inv e1 with e1 | e1
    · exact .inr (sortedR_does Tryz.sortedD hR hv e1)
    exact .inr (sortedR_does Tryz.sortedE hR hv e1)
  rw [h5, cond_false] at e
  cases h6 : Nat.beq g 380
  rotate_left
  · have := Nat.eq_of_beq_eq_true h6; subst this
    rw [h6, cond_true] at e
    obtain ⟨v, h', e1, rfl⟩ := noPan_inv e hr
    exact .inr (noneR_does380 hR hv e1)
  rw [h6, cond_false] at e
  cases h7 : Nat.beq g 252
  rotate_left
  · have := Nat.eq_of_beq_eq_true h7; subst this
    rw [h7, cond_true] at e
    obtain ⟨v, h', e1, rfl⟩ := noPan_inv e hr
    exact .inr (noneR_does252 hR hv e1)
  rw [h7, cond_false] at e
  cases h8 : Nat.beq g 390
  rotate_left
  · have := Nat.eq_of_beq_eq_true h8; subst this
    rw [h8, cond_true] at e
    obtain ⟨v, h', e1, rfl⟩ := noPan_inv e hr
    exact .inr (extern_does Tryz.func390 (by kernel_rfl) (by kernel_rfl) (by kernel_rfl) (by kernel_rfl) (cmpR_ok hR hv e1))
  rw [h8, cond_false] at e
  cases h9 : Nat.beq g 406
  rotate_left
  · have := Nat.eq_of_beq_eq_true h9; subst this
    rw [h9, cond_true] at e
    obtain ⟨v, h', e1, rfl⟩ := noPan_inv e hr
    exact .inr (extern_does Tryz.func406 (by kernel_rfl) (by kernel_rfl) (by kernel_rfl) (by kernel_rfl) (fbR_ok hR hv e1))
  rw [h9, cond_false] at e
  cases h10 : Nat.beq g 408
  rotate_left
  · have := Nat.eq_of_beq_eq_true h10; subst this
    rw [h10, cond_true] at e
    obtain ⟨v, h', e1, rfl⟩ := noPan_inv e hr
    exact .inr (extern_does Tryz.func408 (by kernel_rfl) (by kernel_rfl) (by kernel_rfl) (by kernel_rfl) (bfR_ok hR hv e1))
  rw [h10, cond_false] at e
  exact .inl e
end Go.Ev
