/- hunt.Broken: the fuse of the first line that is not sound. -/
import Derived.Test.YtibaafmjbmnpjaaGreatDoorProg
import Derived.TacticsInMore
import Derived.RegionIn
import Derived.LoopNIn
import Derived.LoopIn
import Derived.WalkKit
import Derived.OwnWalkIn
import Derived.Shelf.AbstractIn
import Derived.Below
import Derived.Maps.OwnIn
import Derived.Maps.OwnSet
import Derived.Sort.MapsRangeIn
import Derived.Carry
set_option linter.unusedVariables false
set_option linter.unusedSimpArgs false
namespace Go.Proofs
open Go.RowKit Go.Maps Go.WideMaps
/-- a line: fuse, picks, died, sound, print -/
structure Ln where
  fu : Int
  pi : Int
  di : Bool
  so : Bool
  pr : Int
def Ln.vals (l : Ln) : List Value := [.int .i64 l.fu, .int .i64 l.pi, .bool l.di, .bool l.so, .int .u32 l.pr]
/-- the lines that a slice holds -/
structure LnAt (W : World) (b off n cap : Nat) (L : Nat → Ln) : Prop where
  blk : 0 < n → b < W.heap.size
  le : n ≤ cap
  max : cap ≤ maxLen
  c0 : ∀ i, i < n → W.cell? ⟨b, off + i * 5, none⟩ = some (.int .i64 (L i).fu)
  c1 : ∀ i, i < n → W.cell? ⟨b, off + i * 5 + 1, none⟩ = some (.int .i64 (L i).pi)
  c2 : ∀ i, i < n → W.cell? ⟨b, off + i * 5 + 2, none⟩ = some (.bool (L i).di)
  c3 : ∀ i, i < n → W.cell? ⟨b, off + i * 5 + 3, none⟩ = some (.bool (L i).so)
  c4 : ∀ i, i < n → W.cell? ⟨b, off + i * 5 + 4, none⟩ = some (.int .u32 (L i).pr)
theorem LnAt.below {W W' : World} {b off n cap k : Nat} {L : Nat → Ln} (h : LnAt W b off n cap L) (hb : Below k W W') (hk : W.heap.size ≤ k) : LnAt W' b off n cap L := by
  have hc : ∀ i, i < n → ∀ o, W'.cell? ⟨b, o, none⟩ = W.cell? ⟨b, o, none⟩ := fun i hi o => hb.cell (p := ⟨b, o, none⟩) (Nat.lt_of_lt_of_le (h.blk (by omega)) hk)
  exact ⟨fun hn => by have := hb.size; have := h.blk hn; omega, h.le, h.max, fun i hi => by rw [hc i hi]; exact h.c0 i hi, fun i hi => by rw [hc i hi]; exact h.c1 i hi, fun i hi => by rw [hc i hi]; exact h.c2 i hi, fun i hi => by rw [hc i hi]; exact h.c3 i hi, fun i hi => by rw [hc i hi]; exact h.c4 i hi⟩
/-- what hunt.Broken tells -/
def BrokenEnd (L : Nat → Ln) (n : Nat) (e : Ending) : Prop := ∃ f t, e = .returned (.tuple #[.int .i64 f, .bool t]) ∧ ((t = false ∧ f = 0 ∧ ∀ i, i < n → (L i).so = true) ∨ (t = true ∧ ∃ i, i < n ∧ (∀ j, j < i → (L j).so = true) ∧ (L i).so = false ∧ f = (L i).fu))
theorem BrokenEnd.some {L : Nat → Ln} {n i : Nat} (h1 : i < n) (h2 : ∀ j, j < i → (L j).so = true) (h3 : (L i).so = false) : BrokenEnd L n (.returned (.tuple #[.int .i64 (L i).fu, .bool true])) := ⟨_, _, rfl, .inr ⟨rfl, i, h1, h2, h3, rfl⟩⟩
theorem BrokenEnd.none {L : Nat → Ln} {n : Nat} (h : ∀ i, i < n → (L i).so = true) : BrokenEnd L n (.returned (.tuple #[.int .i64 0, .bool false])) := ⟨_, _, rfl, .inl ⟨rfl, rfl, h⟩⟩
set_option maxRecDepth 100000 in
set_option maxHeartbeats 1000000 in
theorem Tryz.broken_in (F : Fence) (m : Nat) (hF : F.fn 19) (hro : F.round = none) (p : Option Addr) (b off n cap : Nat) (L : Nat → Ln) (w : World) (hp : 0 < n → p = some ⟨b, off, none⟩) (h : LnAt w b off n cap L) :
    CallsIn F m Tryz.prog 19 #[.slice p n cap] w fun e w' => BrokenEnd L n e ∧ Below w.heap.size w w' := by
  have mixed : Tryz.prog.follows .mixedOrders = true := by kernel_rfl
  have t50 : Tryz.prog.underlying 50 = some (.slice 62) := by kernel_rfl
  have FG := Tryz.func19
  refine callsIn_of_wp FG rfl hF ?_ hro
  simp only [show Tryz.f19.ntmps = 18 from rfl, List.size_toArray, List.length_cons, List.length_nil, Nat.reduceAdd, Nat.reduceSub, Array.replicate_succ, Array.replicate_zero, List.push_toArray, List.append_toArray, List.nil_append, List.cons_append]
  gi_wp2
  gi_loopw [8] (fun vi wr => ∃ i : Nat, vi = .int .i64 i ∧ i ≤ n ∧ (∀ j, j < i → (L j).so = true) ∧ Below w.heap.size w wr) (fun vi _ => n - (intOf vi).toNat)
  case atStart => exact ⟨0, by go_num, by omega, fun j hj => by omega, Below.refl _ w⟩
  case round =>
    obtain ⟨i, rfl, hin, hso, hb⟩ := hrel
    have hL := h.below hb (Nat.le_refl _)
    by_cases hlt : i < n
    · have hpe := hp (by omega)
      subst hpe
      have c0 := hL.c0 i hlt
      have c1 := hL.c1 i hlt
      have c2 := hL.c2 i hlt
      have c3 := hL.c3 i hlt
      have c4 := hL.c4 i hlt
      have hmx : n ≤ maxLen := Nat.le_trans hL.le hL.max
      gi_wp2
      · have hns : (L i).so = false := by rename_i hh; simpa using hh
        go_ret2
        exact ⟨BrokenEnd.some hlt hso hns, hb.alloc hb.size _⟩
      · have hns : (L i).so = true := by rename_i hh; simpa using hh
        have hw : wrap64 ((i : Int) + 1) = ((i + 1 : Nat) : Int) := by unfold maxLen at hmx; unfold wrap64; omega
        refine ⟨⟨i + 1, by rw [hw], by omega, fun j hj => ?_, hb.alloc hb.size _⟩, ?_⟩
        · rcases Nat.lt_or_ge j i with hji | hji
          · exact hso j hji
          · obtain rfl : j = i := by omega
            exact hns
        · rw [hw]; simp only [intOf]; omega
    · gi_wp2
      go_ret2
      exact ⟨BrokenEnd.none fun j hj => hso j (by omega), hb⟩
/-! hunt.States: how many prints there are -/
def lnKeys (L : Nat → Ln) (k : Nat) : List Lit := (List.range k).map fun i => .int .u32 (L i).pr
def Sn (L : Nat → Ln) (k : Nat) : DataW Unit := setOf (.agg []) (lnKeys L k)
theorem Sn_succ (L : Nat → Ln) (k : Nat) : Sn L (k + 1) = (Sn L k).put (.int .u32 (L k).pr) (.agg []) := by
  unfold Sn lnKeys
  rw [List.range_succ, List.map_append]
  exact setOf_snoc _ _ _
theorem Sn_zero (L : Nat → Ln) : Sn L 0 = .map [] := by simp [Sn, lnKeys, setOf]
set_option maxRecDepth 100000 in
set_option maxHeartbeats 1000000 in
theorem Tryz.states_in (F : Fence) (m : Nat) (hF : F.fn 21) (hro : F.round = none) (p : Option Addr) (b off n cap : Nat) (L : Nat → Ln) (w : World) (hp : 0 < n → p = some ⟨b, off, none⟩) (h : LnAt w b off n cap L) (hwf : ∀ i, i < n → (Lit.int .u32 (L i).pr).wf = true) (hn : n < maxLen) :
    CallsIn F m Tryz.prog 21 #[.slice p n cap] w fun e w' => e = .returned (.int .i64 (Maps.size (Sn L n))) ∧ Below w.heap.size w w' := by
  have mixed : Tryz.prog.follows .mixedOrders = true := by kernel_rfl
  have t50 : Tryz.prog.underlying 50 = some (.slice 62) := by kernel_rfl
  have t108 : Tryz.prog.underlying 108 = some (.map 60 109) := by kernel_rfl
  have t60 : Tryz.prog.underlying 60 = some (.int .u32) := by kernel_rfl
  have hmm := @run_makeMap Tryz.prog
  have FG := Tryz.func21
  refine callsIn_of_wp FG rfl hF ?_ hro
  simp only [show Tryz.f21.ntmps = 20 from rfl, List.size_toArray, List.length_cons, List.length_nil, Nat.reduceAdd, Nat.reduceSub, Array.replicate_succ, Array.replicate_zero, List.push_toArray, List.append_toArray, List.nil_append, List.cons_append]
  gi_wp2
  gi_loopw [9] (fun vi wr => ∃ i : Nat, vi = .int .i64 i ∧ i ≤ n ∧ wr.ownsMap Tryz.prog 60 (unitElem (H := Unit)) w.heap.size i (Sn L i) ∧ Below w.heap.size w wr) (fun vi _ => n - (intOf vi).toNat)
  case atStart => exact ⟨0, by go_num, by omega, by rw [Sn_zero]; exact World.ownsMap_made _ _ _ _, (Below.refl _ w).alloc (Nat.le_refl _) _⟩
  case round =>
    obtain ⟨i, rfl, hin, hown, hb⟩ := hrel
    have hL := h.below hb (Nat.le_refl _)
    have hmx : n ≤ maxLen := Nat.le_trans hL.le hL.max
    by_cases hlt : i < n
    · have hpe := hp (by omega)
      subst hpe
      have c0 := hL.c0 i hlt
      have c1 := hL.c1 i hlt
      have c2 := hL.c2 i hlt
      have c3 := hL.c3 i hlt
      have c4 := hL.c4 i hlt
      gi_wp2_with (first
        | (gi_at_mapUpdate; refine wpListIn_mapUpdate_own _ rfl _ _ _ 108 rfl 60 109 (int_keyed t60) t108 (unitElem (H := Unit)) w.heap.size i _ rfl (hown.alloc _) (by omega) _ _ _ rfl rfl (keyOf_int_mk t60 (hwf i hlt)) _ [] unitElem_mk ?_; intro w1 hown1 hgrow1)
        | gi_in)
      have hw : wrap64 ((i : Int) + 1) = ((i + 1 : Nat) : Int) := by unfold maxLen at hmx; unfold wrap64; omega
      have hb2 := hb.alloc hb.size (.cells #[.int .i64 (L i).fu, .int .i64 (L i).pi, .bool (L i).di, .bool (L i).so, .int .u32 (L i).pr] 62)
      exact ⟨⟨i + 1, by rw [hw], by omega, (Sn_succ L i).symm ▸ hown1, hb2.grown hgrow1 hb2.size (fun j hj => by cases hj; exact Nat.le_refl _)⟩, by rw [hw]; simp only [intOf]; omega⟩
    · gi_wp2_with (first
        | (gi_at_len; refine wpListIn_len_own _ rfl _ 108 rfl 60 109 t108 _ w.heap.size i _ rfl hown ?_)
        | gi_in)
      have : i = n := by omega
      subst this
      go_ret
      exact ⟨rfl, hb⟩
end Go.Proofs
