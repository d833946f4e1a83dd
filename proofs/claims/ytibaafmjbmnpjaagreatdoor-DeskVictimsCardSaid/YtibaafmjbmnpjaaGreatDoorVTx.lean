/- DeskVictims: of n its lowest bit alone counts; both runs end with true, from whatever world. -/
import Derived.Test.YtibaafmjbmnpjaaGreatDoorVW1
import Derived.Test.YtibaafmjbmnpjaaGreatDoorVDV
set_option linter.unusedVariables false
set_option linter.unusedSimpArgs false
set_option maxRecDepth 1000000
namespace Go.Ev
open Go Go.RowKit Go.Proofs
noncomputable def dvA : Code := match Tryz.f3.body with | some (.seq a _) => a | _ => .skip
noncomputable def dvB : Code := match Tryz.f3.body with | some (.seq _ (.seq b _)) => b | _ => .skip
noncomputable def dvC : Code := match Tryz.f3.body with | some (.seq _ (.seq _ (.seq c _))) => c | _ => .skip
noncomputable def dvD : Code := match Tryz.f3.body with | some (.seq _ (.seq _ (.seq _ d))) => d | _ => .skip
theorem dv_body : Tryz.f3.body = some (.seq dvA (.seq dvB (.seq dvC dvD))) := by kernel_rfl
noncomputable def dvL : List Oper := match dvC with | .region _ ops _ => ops.toList | _ => []
noncomputable def dvO (i : Nat) : Oper := match dvL[i]? with | some o => o | none => ⟨none, .move (.tmp 0), 0, "", #[], none⟩
theorem dvC_is : dvC = .region 3 #[dvO 0, dvO 1, dvO 2, dvO 3] false := by kernel_rfl
theorem dvO0 : (dvO 0).op = .move (.tmp 0) ∧ (dvO 0).dst = some 17 ∧ (dvO 0).guard = none := ⟨by kernel_rfl, by kernel_rfl, by kernel_rfl⟩
theorem dvO1 : (dvO 1).op = .binOp .and 3 (.tmp 17) (.const (.int .i64 1)) 3 ∧ (dvO 1).dst = some 18 ∧ (dvO 1).guard = none := ⟨by kernel_rfl, by kernel_rfl, by kernel_rfl⟩
theorem dvO2 : (dvO 2).op = .binOp .add 3 (.const (.int .i64 2)) (.tmp 18) 3 ∧ (dvO 2).dst = some 19 ∧ (dvO 2).guard = none := ⟨by kernel_rfl, by kernel_rfl, by kernel_rfl⟩
theorem dvO3 : (dvO 3).op = .assign (.tmp 19) ∧ (dvO 3).dst = some 3 ∧ (dvO 3).guard = none := ⟨by kernel_rfl, by kernel_rfl, by kernel_rfl⟩
noncomputable def xF (x : X) : F := X.rec (motive := fun _ => F) (fun _ => F.empty) (fun f _ => f) (fun _ f _ => f) (fun f _ => f) (fun _ f _ => f) x
noncomputable def xH (x : X) : Hp := X.rec (motive := fun _ => Hp) (fun _ => deadH) (fun _ h => h) (fun _ _ h => h) (fun _ h => h) (fun _ _ h => h) x
noncomputable def dvCall (S : (Nat → AV → Hp → R) → Nat → AV → Hp → R → R) : Nat → AV → Hp → R := callQ Tryz.prog tabs S 59
noncomputable def dvX1 (S : (Nat → AV → Hp → R) → Nat → AV → Hp → R → R) (n : Int) : X := evCode Tryz.prog (dvCall S) dvA (initF (.cn (.int .i64 n) .nl) 0 F.empty) deadH
noncomputable def dvX2 (S : (Nat → AV → Hp → R) → Nat → AV → Hp → R → R) (n : Int) : X := evCode Tryz.prog (dvCall S) dvB (xF (dvX1 S n)) (xH (dvX1 S n))
noncomputable def dvF3 (S : (Nat → AV → Hp → R) → Nat → AV → Hp → R → R) (n : Int) (c k : Nat) : F := F.set 3 (.int .i64 (.ofNat k)) (F.set 19 (.int .i64 (.ofNat k)) (F.set 18 (.int .i64 (.ofNat c)) (F.set 17 (.int .i64 n) (xF (dvX2 S n)))))
noncomputable def dvR (S : (Nat → AV → Hp → R) → Nat → AV → Hp → R → R) (n : Int) (c k : Nat) : R := bodyR Tryz.prog (dvCall S) Tryz.f3.results.toList (evCodeQ Tryz.prog (dvCall S) (tabs 3) dvD (dvF3 S n c k) (xH (dvX2 S n)))
noncomputable def isNorm (x : X) : Bool := X.rec (motive := fun _ => Bool) (fun _ => false) (fun _ _ => true) (fun _ _ _ => false) (fun _ _ => false) (fun _ _ _ => false) x
theorem isNorm_eq {x : X} (h : isNorm x = true) : x = .norm (xF x) (xH x) := by cases x <;> first | rfl | cases h
/-- what is asked of a run -/
noncomputable def dvOK (S : (Nat → AV → Hp → R) → Nat → AV → Hp → R → R) (n : Int) (c k : Nat) : Bool := cond (isNorm (dvX1 S n)) (cond (isNorm (dvX2 S n)) (okV (dvR S n c k) (.bool true)) false) false
theorem dv_run0 (n : Int) : dvOK v025S n 0 2 = true := by kernel_rfl
theorem dv_run1 (n : Int) : dvOK w030S n 1 3 = true := by kernel_rfl
theorem dv_get0 (n : Int) : F.get 0 (xF (dvX2 v025S n)) = .int .i64 n := by kernel_rfl
theorem dv_get1 (n : Int) : F.get 0 (xF (dvX2 w030S n)) = .int .i64 n := by kernel_rfl
theorem dv_calls {S : (Nat → AV → Hp → R) → Nat → AV → Hp → R → R} (hS : ∀ N, SumsOK Tryz.prog N S) {n : Int} {c k : Nat} (hok : dvOK S n c k = true) (hg : F.get 0 (xF (dvX2 S n)) = .int .i64 n)
    (hc : IntKind.i64.wrap ((BitVec.ofInt IntKind.i64.bits n &&& BitVec.ofInt IntKind.i64.bits 1).toNat : Int) = Int.ofNat c) (hk : IntKind.i64.wrap (2 + Int.ofNat c) = Int.ofNat k) (W : World) (hl : 8 ≤ W.heap.size) :
    Calls Tryz.prog 3 #[.int .i64 n] W fun e W' => e = .returned (.bool true) ∧ Go.RowKit.Below W.heap.size W W' := by
  obtain ⟨h1, e1⟩ := cond_t (show cond (isNorm (dvX1 S n)) _ false = true from hok)
  obtain ⟨h2, e2⟩ := cond_t e1
  have hR0 := Rel.first W hl
  have hCall : CallOK Tryz.prog (fun b => b < W.heap.size) (dvCall S) := by
    unfold dvCall; rw [callQ_eq plansOK]; exact callN_ok follows (hS _) 59
  have hfn := fns_at plansOK Tryz.func3
  obtain ⟨okf, cok⟩ := (fnOK_inv hfn).2 _ dv_body
  obtain ⟨hn, c0, hb, hcode⟩ := okFn_inv okf
  rw [dv_body] at hb; cases hb
  obtain ⟨okA, k1⟩ := cond_t (show cond (okCode Tryz.f3.ntmps dvA) (okCode Tryz.f3.ntmps (.seq dvB (.seq dvC dvD))) false = true from hcode)
  obtain ⟨okB, k2⟩ := cond_t (show cond (okCode Tryz.f3.ntmps dvB) (okCode Tryz.f3.ntmps (.seq dvC dvD)) false = true from k1)
  obtain ⟨okC, okD⟩ := cond_t (show cond (okCode Tryz.f3.ntmps dvC) (okCode Tryz.f3.ntmps dvD) false = true from k2)
  obtain ⟨_, j1⟩ := cond_t (show cond (codeOK Tryz.prog (tabs 3) dvA) (codeOK Tryz.prog (tabs 3) (.seq dvB (.seq dvC dvD))) false = true from cok)
  obtain ⟨_, j2⟩ := cond_t (show cond (codeOK Tryz.prog (tabs 3) dvB) (codeOK Tryz.prog (tabs 3) (.seq dvC dvD)) false = true from j1)
  obtain ⟨_, cokD⟩ := cond_t (show cond (codeOK Tryz.prog (tabs 3) dvC) (codeOK Tryz.prog (tabs 3) dvD) false = true from j2)
  cases hr : dvR S n c k with
  | fail s => rw [hr] at e2; cases e2
  | pan _ _ => rw [hr] at e2; cases e2
  | ok v h' =>
    rw [hr] at e2
    have hv := eqAV_eq _ _ (show eqAV v (.bool true) = true from e2)
    subst hv
    have hr' : bodyR Tryz.prog (dvCall S) Tryz.f3.results.toList (evCode Tryz.prog (dvCall S) dvD (dvF3 S n c k) (xH (dvX2 S n))) = .ok (.bool true) h' := by
      rw [← evCodeQ_eq dvD cokD]; exact hr
    have hx : (evCode Tryz.prog (dvCall S) dvD (dvF3 S n c k) (xH (dvX2 S n))).good := fun s hs => by
      rw [hs] at hr'; cases hr'
    have hf0 : FR Tryz.f3.ntmps (firstC W hl) (initF (.cn (.int .i64 n) .nl) 0 F.empty) { tmps := #[.int .i64 n] ++ Array.replicate (Tryz.f3.ntmps - 1) undef, defers := [] } :=
      init_fr (vs := [.int .i64 n]) (by simp only [VRs, VR]; exact ⟨_, _, rfl, rfl, rfl⟩) (by show 1 ≤ Tryz.f3.ntmps; exact Nat.le_of_ble_eq_true (by kernel_rfl)) hn
    have hwp := mid_wp (N := fun b => b < W.heap.size) (Γ := firstC W hl) (w := W) (C := dvC) follows hCall okA okB okD hR0 hf0 (isNorm_eq h1) (isNorm_eq h2) (f3 := dvF3 S n c k)
      (fun Δ a w' g1 g2 => by
        rw [dvC_is]
        exact odd_wp rfl dvO0 dvO1 dvO2 dvO3 ⟨Nat.lt_of_lt_of_le (by decide) (Nat.le_of_ble_eq_true (show Nat.ble 20 Tryz.f3.ntmps = true by kernel_rfl)), Nat.lt_of_lt_of_le (by decide) (Nat.le_of_ble_eq_true (show Nat.ble 20 Tryz.f3.ntmps = true by kernel_rfl)), Nat.lt_of_lt_of_le (by decide) (Nat.le_of_ble_eq_true (show Nat.ble 20 Tryz.f3.ntmps = true by kernel_rfl)), Nat.lt_of_lt_of_le (by decide) (Nat.le_of_ble_eq_true (show Nat.ble 20 Tryz.f3.ntmps = true by kernel_rfl))⟩ hc hk g1 g2 hg) rfl hx
    refine (calls_code follows hCall Tryz.func3 dv_body hr' R.good_ok hwp).mono fun e w' he => ?_
    cases e with
    | returned val =>
      obtain ⟨Θ, g1, g2, g3, g4⟩ := he
      simp only [VR] at g2
      exact ⟨by rw [g2], g4.all⟩
    | _ => exact he.elim
theorem victims_calls (n : Int) (W : World) (hl : 8 ≤ W.heap.size) : Calls Tryz.prog 3 #[.int .i64 n] W fun e W' => e = .returned (.bool true) ∧ Go.RowKit.Below W.heap.size W W' := by
  obtain ⟨c, hc, hb⟩ := and_one_bits n
  rcases hc with rfl | rfl
  · exact dv_calls v025S_ok (dv_run0 n) (dv_get0 n) hb (by rfl) W hl
  · exact dv_calls w030S_ok (dv_run1 n) (dv_get1 n) hb (by rfl) W hl
end Go.Ev
