/- A law one of whose regions is walked by hand: what is ahead of it and behind it is run. -/
import Derived.Test.YtibaafmjbmnpjaaGreatDoorE4
set_option linter.unusedVariables false
set_option linter.unusedSimpArgs false
namespace Go.Ev
open Go Go.RowKit
section
variable {P : Program} {N : Nat → Prop} {nt : Nat} {Γ Γ0 Δ : Ctx} {h h' h1 h2 k : Hp} {w w0 w' : World} {v : AV} {f f1 f2 f3 g : F} {a : Act} {o : Oper} {callR : Nat → AV → Hp → R} {r : R} {x y : X} {ops : Array Oper}
theorem calls_code (hm : P.follows .mixedOrders = true) (hc : CallOK P N callR) {g : Nat} {fn : Func} {c : Code} (hfn : P.funcs[g]? = some fn) (hb : fn.body = some c) {args : Array Value} (e2 : bodyR P callR fn.results.toList x = r) (hr : r.good)
    (hwp : c.wpIn (fen none) 0 P (PostX N fn.ntmps Γ w x) { tmps := args ++ Array.replicate (fn.ntmps - args.size) undef, defers := [] } w) : Calls P g args w (EndR N Γ w r) := by
  have hgood : x.good := fun s hs => by
    rw [hs] at e2
    exact hr s e2.symm
  refine calls_of_wp_marks hfn hb (wp_mono ((wpIn_wide (n := 0)).1 hwp) fun e' a' w' hq => ?_)
  have fin : ∀ (f' : F) (h2 : Hp) (Δ : Ctx), Γ.Le Δ → Rel N Δ h2 w' → FR fn.ntmps Δ f' a' → Below N w w' → finR P callR fn.results.toList f' h2 = r → LeavesM P fn a'.tmps (EndR N Γ w r) a'.defers .returning w' := fun f' h2 Δ g1 g2 g3 g4 e3 => by
    refine defers_leaves hm hc f'.ds a'.defers _ h2 Δ w' g2 g3.ds e3 hr fun h5 Θ w5 e5 k1 k2 k3 => ?_
    have : ∃ v h6, r = .ok v h6 := by
      have hres : ∀ (vs : AV), (∃ v h6, (vs.cnK (Ev.R.ok (.tup vs) h5) fun v r => r.nlK (Ev.R.ok (.tup vs) h5) (Ev.R.ok v h5)) = Ev.R.ok v h6) := fun vs => by
        cases vs with
        | cn y l => cases l <;> exact ⟨_, _, rfl⟩
        | _ => exact ⟨_, _, rfl⟩
      obtain ⟨avs, vs2, e6, _, _⟩ := resL_ok k2 (g3.mono k1) (R.good_ne hr) fn.results.toList _ e5
      obtain ⟨v, h6, e7⟩ := hres avs
      exact ⟨v, h6, e6.symm.trans e7⟩
    obtain ⟨v, h6, rfl⟩ := this
    obtain ⟨rfl, val, hrun, hval⟩ := resR_ok k2 (g3.mono k1) e5
    exact ⟨val, hrun, Θ, g1.trans k1, hval, k2, g4.trans k3⟩
  cases hy : x with
  | fail s => exact absurd hy (hgood s)
  | norm f' h2 =>
    rw [hy] at hq e2
    cases e' with
    | normal => obtain ⟨Δ, g1, g2, g3, g4⟩ := hq; exact fin f' h2 Δ g1 g2 g3 g4 e2
    | _ => exact hq.elim
  | ret f' h2 =>
    rw [hy] at hq e2
    cases e' with
    | ret => obtain ⟨Δ, g1, g2, g3, g4⟩ := hq; exact fin f' h2 Δ g1 g2 g3 g4 e2
    | _ => exact hq.elim
  | exit i f' h2 => rw [hy] at e2; exact absurd e2.symm (R.good_ne hr)
  | pan v f' h2 =>
    rw [hy] at hq e2
    cases e' with
    | panic chain =>
      obtain ⟨Δ, val, hch, g1, g5, g2, g3, g4⟩ := hq
      subst hch
      exact defersP_leaves hm hc rfl f'.ds a'.defers h2 Δ w' g2 g5 g3 g3.ds g1 g4 e2 hr
    | _ => exact hq.elim

/-- ahead, by hand, behind -/
theorem mid_wp (hm : P.follows .mixedOrders = true) (hc : CallOK P N callR) {A B C D : Code} (okA : okCode nt A = true) (okB : okCode nt B = true) (okD : okCode nt D = true) (hR : Rel N Γ h w) (hf : FR nt Γ f a)
    (eA : evCode P callR A f h = .norm f1 h1) (eB : evCode P callR B f1 h1 = .norm f2 h2)
    (hC : ∀ Δ a w', Rel N Δ h2 w' → FR nt Δ f2 a → C.wpIn (fen none) 0 P (PostX N nt Δ w' (.norm f3 h2)) a w') (eD : evCode P callR D f3 h2 = x) (hx : x.good) :
    (Code.seq A (.seq B (.seq C D))).wpIn (fen none) 0 P (PostX N nt Γ w x) a w := by
  refine wpIn_seq (wpIn_mono (evCode_wpIn (ro := none) hm hc A okA (.inl rfl) f h _ eA good_norm Γ a w hR hf) fun e a1 w1 hq => ?_)
  cases e with
  | normal =>
    obtain ⟨Δ1, p1, p2, p3, p4⟩ := hq
    refine wpIn_seq (wpIn_mono (evCode_wpIn (ro := none) hm hc B okB (.inl rfl) f1 h1 _ eB good_norm Δ1 a1 w1 p2 p3) fun e a2 w2 hq => ?_)
    cases e with
    | normal =>
      obtain ⟨Δ2, q1, q2, q3, q4⟩ := hq
      refine wpIn_seq (wpIn_mono (hC Δ2 a2 w2 q2 q3) fun e a3 w3 hq => ?_)
      cases e with
      | normal =>
        obtain ⟨Δ3, r1, r2, r3, r4⟩ := hq
        exact wpIn_mono (evCode_wpIn (ro := none) hm hc D okD (.inl rfl) f3 h2 x eD hx Δ3 a3 w3 r2 r3) fun e a4 w4 hq => hq.from ((p1.trans q1).trans r1) ((p4.trans q4).trans r4)
      | _ => exact hq.elim
    | _ => exact hq.elim
  | _ => exact hq.elim

/-- one operation of a region, by hand -/
theorem wpOps_one {Q : Exit → Act → World → Prop} {i : Nat} {rest : List Nat} {val : Value} (hi : ops[i]? = some o) (hg : o.guard = none) (hnd : ∀ c, o.op ≠ .defer c) (hrun : (execOp a.eval o).run P w = .ok (.value val) w') (h : wpOpsIn (fen none) 0 P ops Q rest (a.put o.dst val) w') : wpOpsIn (fen none) 0 P ops Q (i :: rest) a w := by
  simp only [wpOpsIn, hi]
  have hwanted : Region.wanted o (yielded ops a.tmps) = true := by simp [Region.wanted, hg]
  rw [if_pos hwanted]
  refine ⟨fun _ _ => trivial, ?_⟩
  rw [NoDef.sem (ro := none) (.inl rfl), hrun]
  exact h
theorem exec_bin {op : BinOp} {t t' : TypeId} {x y : Operand} {u u' val : Value} (ho : o.op = .binOp op t x y t') (h1 : op ≠ .eql) (h2 : op ≠ .neq) (hx : a.eval x = u) (hy : a.eval y = u') (hr : (binOp op t u u').run P w = .ok val w) : (execOp a.eval o).run P w = .ok (.value val) w := by
  have hg : (do eqGuard op t x y u u'; binOp op t u u' : Sem Value).run P w = .ok val w := by
    have hg : (eqGuard op t x y u u').run P w = .ok () w := by cases op <;> first | rfl | (exact absurd rfl h1) | (exact absurd rfl h2)
    simp only [Sem.run_bind, hg, Result.andThen_ok, hr]
  simp only [execOp, ho]
  rw [hx, hy, Sem.run_bind, hg]; rfl
theorem and_run (k : IntKind) (p q : Int) (t : TypeId) : (binOp .and t (.int k p) (.int k q)).run P w = .ok (.int k (k.wrap ((BitVec.ofInt k.bits p &&& BitVec.ofInt k.bits q).toNat : Int))) w := by simp [binOp, Op.intBits]
theorem add_run (k : IntKind) (p q : Int) (t : TypeId) : (binOp .add t (.int k p) (.int k q)).run P w = .ok (.int k (k.wrap (p + q))) w := by simp [binOp, Op.intArith]
theorem and_one_bits (n : Int) : ∃ c : Nat, (c = 0 ∨ c = 1) ∧ (IntKind.i64.wrap ((BitVec.ofInt IntKind.i64.bits n &&& BitVec.ofInt IntKind.i64.bits 1).toNat : Int)) = Int.ofNat c := by
  refine ⟨(BitVec.ofInt 64 n).toNat % 2, by omega, ?_⟩
  have h1 : (BitVec.ofInt IntKind.i64.bits n &&& BitVec.ofInt IntKind.i64.bits 1).toNat = (BitVec.ofInt 64 n).toNat % 2 := by
    rw [BitVec.toNat_and, show (BitVec.ofInt IntKind.i64.bits 1).toNat = 1 from rfl, Nat.and_one_is_mod]; rfl
  rw [h1]
  rcases Nat.mod_two_eq_zero_or_one (BitVec.ofInt 64 n).toNat with h | h <;> rw [h] <;> rfl
/-- k := 2 + n & 1, in four operations -/
theorem odd_wp {n : Int} {c k : Nat} {id : Nat} {o0 o1 o2 o3 : Oper} {t0 t1 t2 t3 : Tmp} {ty ty' : TypeId} (hops : ops = #[o0, o1, o2, o3])
    (p0 : o0.op = .move (.tmp 0) ∧ o0.dst = some t0 ∧ o0.guard = none) (p1 : o1.op = .binOp .and ty (.tmp t0) (.const (.int .i64 1)) ty ∧ o1.dst = some t1 ∧ o1.guard = none)
    (p2 : o2.op = .binOp .add ty' (.const (.int .i64 2)) (.tmp t1) ty' ∧ o2.dst = some t2 ∧ o2.guard = none) (p3 : o3.op = .assign (.tmp t2) ∧ o3.dst = some t3 ∧ o3.guard = none)
    (ht : @LT.lt Nat _ t0 nt ∧ @LT.lt Nat _ t1 nt ∧ @LT.lt Nat _ t2 nt ∧ @LT.lt Nat _ t3 nt) (hc : IntKind.i64.wrap ((BitVec.ofInt IntKind.i64.bits n &&& BitVec.ofInt IntKind.i64.bits 1).toNat : Int) = Int.ofNat c) (hk : IntKind.i64.wrap (2 + Int.ofNat c) = Int.ofNat k)
    (hR : Rel N Γ h w) (hf : FR nt Γ f a) (h0 : F.get 0 f = .int .i64 n) : (Code.region id ops false).wpIn (fen none) 0 P (PostX N nt Γ w (.norm (F.set t3 (.int .i64 (.ofNat k)) (F.set t2 (.int .i64 (.ofNat k)) (F.set t1 (.int .i64 (.ofNat c)) (F.set t0 (.int .i64 n) f)))) h)) a w := by
  subst hops
  have g0 : a.tmps.getD 0 undef = .int .i64 n := by have := hf.get 0; rw [h0] at this; simpa only [VR] using this
  have put : ∀ {Γ : Ctx} {f : F} {a : Act} {o : Oper} {t : Tmp} {v : AV} {val : Value}, o.dst = some t → @LT.lt Nat _ t nt → FR nt Γ f a → VR Γ v val → FR nt Γ (F.set t v f) (a.put o.dst val) := fun hd hlt hf hv => by
    have := hf.put (d := some _) (fun i hi => by cases hi; exact hlt) hv
    rw [hd]; exact this
  apply wpIn_region
  show wpOpsIn (fen none) 0 P #[o0, o1, o2, o3] _ [0, 1, 2, 3] a w
  refine wpOps_one (w' := w) (o := o0) (val := .int .i64 n) rfl p0.2.2 (fun c hh => by rw [p0.1] at hh; cases hh) (by simp only [execOp, p0.1, Act.eval, g0]; rfl) ?_
  have f0 := put p0.2.1 ht.1 hf (show VR Γ (.int .i64 n) (.int .i64 n) by simp only [VR])
  have e0 : (a.put o0.dst (.int .i64 n)).tmps.getD t0 undef = .int .i64 n := by
    have := f0.get t0; rw [F.get_set_same] at this; simpa only [VR] using this
  refine wpOps_one (w' := w) (o := o1) (val := .int .i64 (.ofNat c)) rfl p1.2.2 (fun c hh => by rw [p1.1] at hh; cases hh) (exec_bin (u := .int .i64 n) (u' := .int .i64 1) p1.1 (by simp) (by simp) e0 rfl (by rw [and_run, hc])) ?_
  have f1 := put p1.2.1 ht.2.1 f0 (show VR Γ (.int .i64 (.ofNat c)) (.int .i64 (.ofNat c)) by simp only [VR])
  have e1 : ((a.put o0.dst (.int .i64 n)).put o1.dst (.int .i64 (.ofNat c))).tmps.getD t1 undef = .int .i64 (.ofNat c) := by
    have := f1.get t1; rw [F.get_set_same] at this; simpa only [VR] using this
  refine wpOps_one (w' := w) (o := o2) (val := .int .i64 (.ofNat k)) rfl p2.2.2 (fun c hh => by rw [p2.1] at hh; cases hh) (exec_bin (u := .int .i64 2) (u' := .int .i64 (.ofNat c)) p2.1 (by simp) (by simp) rfl e1 (by rw [add_run, hk])) ?_
  have f2 := put p2.2.1 ht.2.2.1 f1 (show VR Γ (.int .i64 (.ofNat k)) (.int .i64 (.ofNat k)) by simp only [VR])
  have e2 : (((a.put o0.dst (.int .i64 n)).put o1.dst (.int .i64 (.ofNat c))).put o2.dst (.int .i64 (.ofNat k))).tmps.getD t2 undef = .int .i64 (.ofNat k) := by
    have := f2.get t2; rw [F.get_set_same] at this; simpa only [VR] using this
  refine wpOps_one (w' := w) (o := o3) (val := .int .i64 (.ofNat k)) rfl p3.2.2 (fun c hh => by rw [p3.1] at hh; cases hh) (by simp only [execOp, p3.1, Act.eval, e2]; rfl) ?_
  have f3 := put p3.2.1 ht.2.2.2 f2 (show VR Γ (.int .i64 (.ofNat k)) (.int .i64 (.ofNat k)) by simp only [VR])
  exact ⟨Γ, .refl Γ, hR, f3, .refl N w⟩
end
end Go.Ev
