/- HuntCounts, whatever lines: hand walk; awake is a call that was run. -/
import Derived.Test.YtibaafmjbmnpjaaGreatDoorCHB
import Derived.Sort.QuietIn
set_option linter.unusedVariables false
set_option linter.unusedSimpArgs false
namespace Go.Proofs
open Go.RowKit Go.Maps Go.WideMaps
/-- no line ahead of k has i's print -/
def firstB (L : Nat → Ln) (i k : Nat) : Bool := (List.range k).all fun j => (L j).pr != (L i).pr
def cntN (L : Nat → Ln) : Nat → Nat
  | 0 => 0
  | k + 1 => cond (firstB L k k) (cntN L k + 1) (cntN L k)
theorem firstB_succ (L : Nat → Ln) (i k : Nat) : firstB L i (k + 1) = (firstB L i k && ((L k).pr != (L i).pr)) := by
  unfold firstB; rw [List.range_succ, List.all_append]; simp
theorem cntN_le (L : Nat → Ln) : ∀ k, cntN L k ≤ k
  | 0 => Nat.le_refl _
  | k + 1 => by have := cntN_le L k; unfold cntN; cases firstB L k k <;> simp only [cond_true, cond_false] <;> omega
theorem w64 {i n : Nat} (h : i < n) (hn : n ≤ maxLen) : wrap64 ((i : Int) + 1) = ((i + 1 : Nat) : Int) := by unfold maxLen at hn; unfold wrap64; omega
theorem below_drewN' {B : Nat} {a w : World} (h : Below B a w) (n : Nat) : Below B a (w.drewN n) := h.trans ⟨rfl, rfl, rfl, Nat.le_refl _, fun _ _ => rfl⟩
theorem keys_any (L : Nat → Ln) (a : Int) : ∀ k, ((lnKeys L k).foldl addKey []).any (fun y => y.sameKey (.int .u32 a)) = (List.range k).any fun j => (L j).pr == a
  | 0 => rfl
  | k + 1 => by
    have ih := keys_any L a k
    have e : lnKeys L (k + 1) = lnKeys L k ++ [.int .u32 (L k).pr] := by unfold lnKeys; rw [List.range_succ, List.map_append]; rfl
    rw [e, List.foldl_append, List.range_succ, List.any_append, ← ih]
    show (addKey _ _).any _ = _
    generalize List.foldl addKey [] (lnKeys L k) = A at ih ⊢
    unfold addKey
    split
    · rename_i hh
      rw [List.any_eq_true] at hh
      obtain ⟨y, hy, hy2⟩ := hh
      have hyk : y = .int .u32 (L k).pr := (WideAt.sameKey_iff (by simp [WideAt.IsKeyLit])).1 hy2
      cases hka : ((L k).pr == a)
      · simp [hka]
      · have hka' : (L k).pr = a := by simpa using hka
        have : A.any (fun y => y.sameKey (.int .u32 a)) = true := by
          rw [List.any_eq_true]; exact ⟨y, hy, by rw [hyk, hka']; simp [Lit.sameKey]⟩
        rw [this]; rfl
    · rw [List.any_append]
      congr 1
      simp [Lit.sameKey, Bool.beq_eq_decide_eq]
theorem firstB_any (L : Nat → Ln) (i k : Nat) : firstB L i k = !((List.range k).any fun j => (L j).pr == (L i).pr) := by
  unfold firstB
  rw [List.not_any_eq_all_not]
  rfl
theorem keys_len (L : Nat → Ln) : ∀ k, ((lnKeys L k).foldl addKey []).length = cntN L k
  | 0 => rfl
  | k + 1 => by
    have ih := keys_len L k
    have e : lnKeys L (k + 1) = lnKeys L k ++ [.int .u32 (L k).pr] := by unfold lnKeys; rw [List.range_succ, List.map_append]; rfl
    rw [e, List.foldl_append]
    show (addKey _ _).length = cond (firstB L k k) _ _
    rw [firstB_any, ← keys_any]
    generalize List.foldl addKey [] (lnKeys L k) = A at ih ⊢
    unfold addKey
    cases A.any fun y => y.sameKey (.int .u32 (L k).pr)
    · simp [ih]
    · simp [ih]
theorem size_cnt (L : Nat → Ln) (k : Nat) : Maps.size (Sn L k) = cntN L k := by
  unfold Sn
  rw [size_setOf _ _ (fun x hx => by
    unfold lnKeys at hx
    obtain ⟨j, _, rfl⟩ := List.mem_map.1 hx
    simp [WideAt.IsKeyLit]), keys_len]
set_option maxRecDepth 100000 in
set_option maxHeartbeats 4000000 in
theorem Tryz.counts_in (m : Nat)
    (haw : ∀ W : World, 8 ≤ W.heap.size → CallsIn Fence.wide (m - 1) Tryz.prog 20 #[] W fun e W' => e = .returned (.bool true) ∧ Below W.heap.size W W')
    (p : Option Addr) (b off n cap : Nat) (L : Nat → Ln) (w : World) (hp : 0 < n → p = some ⟨b, off, none⟩) (h : LnAt w b off n cap L) (hwf : ∀ i, i < n → (Lit.int .u32 (L i).pr).wf = true) (hn : n < maxLen) (hl : 8 ≤ w.heap.size) :
    CallsIn Fence.wide m Tryz.prog 5 #[.slice p n cap] w fun e w' => e = .returned (.bool true) ∧ Below w.heap.size w w' := by
  have mixed : Tryz.prog.follows .mixedOrders = true := by kernel_rfl
  have t50 : Tryz.prog.underlying 50 = some (.slice 62) := by kernel_rfl
  have FG := Tryz.func5
  refine callsIn_of_wp FG rfl trivial ?_ rfl
  simp only [show Tryz.f5.ntmps = 79 from rfl, List.size_toArray, List.length_cons, List.length_nil, Nat.reduceAdd, Nat.reduceSub, Array.replicate_succ, Array.replicate_zero, List.push_toArray, List.append_toArray, List.nil_append, List.cons_append]
  gi_wp2
  gi_loopw [3, 4] (fun vn vi wr => ∃ i : Nat, vi = .int .i64 i ∧ vn = .int .i64 (cntN L i : Nat) ∧ i ≤ n ∧ Below w.heap.size w wr) (fun _ vi _ => n - (intOf vi).toNat)
  case atStart => exact ⟨0, by go_num, by go_num, by omega, Below.refl _ w⟩
  case round =>
    obtain ⟨i, rfl, rfl, hin, hb⟩ := hrel
    have hL := h.below hb (Nat.le_refl _)
    have hmx : n ≤ maxLen := Nat.le_trans hL.le hL.max
    by_cases hlt : i < n
    · have hpe := hp (by omega)
      subst hpe
      gi_wp2
      gi_loopw [5, 6] (fun vf vk wr2 => ∃ k : Nat, vk = .int .i64 k ∧ vf = .bool (firstB L i k) ∧ k ≤ i ∧ Below w.heap.size w wr2) (fun _ vk _ => i - (intOf vk).toNat)
      case atStart => exact ⟨0, by go_num, rfl, by omega, hb⟩
      case round =>
        obtain ⟨k, rfl, rfl, hki, hb2⟩ := hrel
        have hL2 := h.below hb2 (Nat.le_refl _)
        by_cases hkl : k < i
        · have ck := hL2.c4 k (by omega)
          have ci := hL2.c4 i hlt
          obtain ⟨fb, hfb⟩ : ∃ fb, firstB L i k = fb := ⟨_, rfl⟩
          rw [hfb]
          cases fb
          · gi_wp2
            gi_quiet (fail)
            gi_wp2
            exact ⟨⟨k + 1, by rw [w64 (Nat.lt_trans hkl hlt) hmx], by rw [firstB_succ, hfb]; rfl, by omega, below_drewN' hb2 _⟩, by rw [w64 (Nat.lt_trans hkl hlt) hmx]; simp only [intOf]; omega⟩
          · gi_wp2
            gi_quiet (fail)
            gi_wp2
            exact ⟨⟨k + 1, by rw [w64 (Nat.lt_trans hkl hlt) hmx], by rw [firstB_succ, hfb, Bool.true_and], by omega, below_drewN' hb2 _⟩, by rw [w64 (Nat.lt_trans hkl hlt) hmx]; simp only [intOf]; omega⟩
        · have hke : k = i := by omega
          obtain ⟨fb, hfb⟩ : ∃ fb, firstB L i k = fb := ⟨_, rfl⟩
          rw [hfb]
          have hfi : firstB L i i = fb := by rw [hke] at hfb; exact hfb
          have hcl := cntN_le L i
          have hcs : cntN L (i + 1) = cond fb (cntN L i + 1) (cntN L i) := by show cond (firstB L i i) _ _ = _; rw [hfi]
          cases fb
          · gi_wp2
            exact ⟨⟨i + 1, by rw [w64 hlt hmx], by rw [hcs]; rfl, by omega, hb2⟩, by rw [w64 hlt hmx]; simp only [intOf]; omega⟩
          · gi_wp2
            exact ⟨⟨i + 1, by rw [w64 hlt hmx], by rw [hcs, w64 (Nat.lt_of_le_of_lt hcl hlt) hmx]; rfl, by omega, hb2⟩, by rw [w64 hlt hmx]; simp only [intOf]; omega⟩
    · have hie : i = n := by omega
      subst hie
      gi_wp2
      refine ⟨trivial, (fun hd => by cases hd), (Tryz.broken_in Fence.wide (m - 1) trivial rfl p b off i cap L wr hp hL).mono ?_⟩
      rintro e w1 ⟨⟨f, t, rfl, hbr⟩, hb1⟩
      have hb1' := hb.trans (hb1.mono hb.size)
      gi_wp2
      refine ⟨trivial, (fun hd => by cases hd), (haw w1 (by have := hb1'.size; omega)).mono ?_⟩
      rintro e w2 ⟨rfl, hb2⟩
      have hb2' := hb1'.trans (hb2.mono hb1'.size)
      gi_wp2
      refine ⟨trivial, (fun hd => by cases hd), (Tryz.states_in Fence.wide (m - 1) trivial rfl p b off i cap L w2 hp (h.below hb2' (Nat.le_refl _)) hwf hn).mono ?_⟩
      rintro e w3 ⟨rfl, hb3⟩
      have hb3' := hb2'.trans (hb3.mono hb2'.size)
      rw [size_cnt]
      gi_wp2
      rcases hbr with ⟨rfl, rfl, hall⟩ | ⟨rfl, q, hq, hbef, hns, rfl⟩
      · gi_loopw [9] (fun vj wr2 => ∃ j : Nat, vj = .int .i64 j ∧ j ≤ i ∧ Below w.heap.size w wr2) (fun vj _ => i - (intOf vj).toNat)
        case atStart => exact ⟨0, by go_num, by omega, hb3'⟩
        case round =>
          obtain ⟨j, rfl, hji, hbj⟩ := hrel
          have hLj := h.below hbj (Nat.le_refl _)
          have hmx : i ≤ maxLen := Nat.le_trans hLj.le hLj.max
          by_cases hjl : j < i
          · have hpe := hp (by omega)
            subst hpe
            have c3 := hLj.c3 j hjl
            rw [hall j hjl] at c3
            gi_wp2
            exact ⟨⟨j + 1, by rw [w64 hjl hmx], by omega, hbj⟩, by rw [w64 hjl hmx]; simp only [intOf]; omega⟩
          · gi_wp2
            go_ret
            exact ⟨rfl, hbj⟩
      · gi_loopw [9] (fun vj wr2 => ∃ j : Nat, vj = .int .i64 j ∧ j ≤ q ∧ Below w.heap.size w wr2) (fun vj _ => i - (intOf vj).toNat)
        case atStart => exact ⟨0, by go_num, by omega, hb3'⟩
        case round =>
          obtain ⟨j, rfl, hjq, hbj⟩ := hrel
          have hLj := h.below hbj (Nat.le_refl _)
          have hmx : i ≤ maxLen := Nat.le_trans hLj.le hLj.max
          have hjl : j < i := by omega
          have hpe := hp (by omega)
          subst hpe
          have c3 := hLj.c3 j hjl
          have c0 := hLj.c0 j hjl
          by_cases hj : j = q
          · subst hj
            rw [hns] at c3
            gi_wp2
            go_ret
            exact ⟨rfl, hbj⟩
          · rw [hbef j (by omega)] at c3
            gi_wp2
            exact ⟨⟨j + 1, by rw [w64 hjl hmx], by omega, hbj⟩, by rw [w64 hjl hmx]; simp only [intOf]; omega⟩
end Go.Proofs
