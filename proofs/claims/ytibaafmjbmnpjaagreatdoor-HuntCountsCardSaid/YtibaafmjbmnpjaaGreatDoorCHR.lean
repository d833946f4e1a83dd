/- A slice of lines, as an argument reads: its cells. -/
import Derived.Test.YtibaafmjbmnpjaaGreatDoorCHM
import Derived.Deep.Slices
set_option linter.unusedVariables false
set_option linter.unusedSimpArgs false
namespace Go.Proofs
open Go.RowKit Go.ChangeShapes Go.WideShapes
theorem plain_at {w : World} {a : Addr} {v : Value} (h : w.cell? a = some v) : a = ⟨a.block, a.off, none⟩ := by
  have := World.cell?_spot h
  cases a
  simp_all
theorem block_at {w : World} {b o : Nat} {v : Value} (h : w.cell? ⟨b, o, none⟩ = some v) : b < w.heap.size := by
  rcases Nat.lt_or_ge b w.heap.size with hb | hb
  · exact hb
  · simp [World.cell?, Array.getElem?_eq_none hb] at h
noncomputable def lnFs : Array Field := match Tryz.prog.underlying 62 with | some (.struct fs) => fs | _ => #[]
theorem lnT : Tryz.prog.underlying 62 = some (.struct lnFs) := by kernel_rfl
noncomputable def lnF (i : Nat) : Field := match lnFs[i]? with | some f => f | none => ⟨"", 0, 0, false, "", "", 0⟩
theorem lnF_at : lnFs.size = 5 ∧ lnFs[0]? = some (lnF 0) ∧ lnFs[1]? = some (lnF 1) ∧ lnFs[2]? = some (lnF 2) ∧ lnFs[3]? = some (lnF 3) ∧ lnFs[4]? = some (lnF 4) := ⟨by kernel_rfl, by kernel_rfl, by kernel_rfl, by kernel_rfl, by kernel_rfl, by kernel_rfl⟩
theorem lnF_ty : (lnF 0).type = 3 ∧ (lnF 1).type = 3 ∧ (lnF 2).type = 4 ∧ (lnF 3).type = 4 ∧ (lnF 4).type = 60 := ⟨by kernel_rfl, by kernel_rfl, by kernel_rfl, by kernel_rfl, by kernel_rfl⟩
theorem lnF_off : (lnF 0).offset = 0 ∧ (lnF 1).offset = 1 ∧ (lnF 2).offset = 2 ∧ (lnF 3).offset = 3 ∧ (lnF 4).offset = 4 := ⟨by kernel_rfl, by kernel_rfl, by kernel_rfl, by kernel_rfl, by kernel_rfl⟩
theorem lnC : Tryz.prog.cellsOf 62 = 5 ∧ Tryz.prog.cellsOf 3 = 1 ∧ Tryz.prog.cellsOf 4 = 1 ∧ Tryz.prog.cellsOf 60 = 1 := ⟨by kernel_rfl, by kernel_rfl, by kernel_rfl, by kernel_rfl⟩
instance : Inhabited Ln := ⟨⟨0, 0, false, false, 0⟩⟩
set_option maxRecDepth 100000 in
/-- one line, from its five cells -/
theorem line_of {H : Type} {enc : TypeId × Value → H} {W : World} {base : Nat} {spare : Nat → Bool} {held : Bool} {fuel : Nat} {cs : List Value} {x : DataW H × List MemPlace} (h : DataW.trod enc Tryz.prog W base spare held fuel 62 cs = some x) :
    ∃ l : Ln, cs = l.vals ∧ (Lit.int .u32 l.pr).wf = true := by
  obtain ⟨xs, k, _, _, hlen, hxl, hf⟩ := DataW.trod_struct lnT h
  rw [lnC.1] at hlen
  rw [lnF_at.1] at hxl
  obtain ⟨c3, c4, c60⟩ := lnC.2
  match xs, hxl, cs, hlen with
  | [y0, y1, y2, y3, y4], _, [v0, v1, v2, v3, v4], _ =>
    have g0 := hf 0 _ lnF_at.2.1
    have g1 := hf 1 _ lnF_at.2.2.1
    have g2 := hf 2 _ lnF_at.2.2.2.1
    have g3 := hf 3 _ lnF_at.2.2.2.2.1
    have g4 := hf 4 _ lnF_at.2.2.2.2.2
    rw [lnF_ty.1, lnF_off.1, c3] at g0
    rw [lnF_ty.2.1, lnF_off.2.1, c3] at g1
    rw [lnF_ty.2.2.1, lnF_off.2.2.1, c4] at g2
    rw [lnF_ty.2.2.2.1, lnF_off.2.2.2.1, c4] at g3
    rw [lnF_ty.2.2.2.2, lnF_off.2.2.2.2, c60] at g4
    simp at g0 g1 g2 g3 g4
    obtain ⟨n0, e0, _, _⟩ := DataW.trod_int (by kernel_rfl : Tryz.prog.underlying 3 = some (.int .i64)) g0
    obtain ⟨n1, e1, _, _⟩ := DataW.trod_int (by kernel_rfl : Tryz.prog.underlying 3 = some (.int .i64)) g1
    obtain ⟨b2, e2, _⟩ := DataW.trod_bool (by kernel_rfl : Tryz.prog.underlying 4 = some .bool) g2
    obtain ⟨b3, e3, _⟩ := DataW.trod_bool (by kernel_rfl : Tryz.prog.underlying 4 = some .bool) g3
    obtain ⟨n4, e4, _, hw⟩ := DataW.trod_int (by kernel_rfl : Tryz.prog.underlying 60 = some (.int .u32)) g4
    refine ⟨⟨n0, n1, b2, b3, n4⟩, ?_, hw⟩
    simp at e0 e1 e2 e3 e4
    simp [Ln.vals, e0, e1, e2, e3, e4]
theorem lines_of {H : Type} {enc : TypeId × Value → H} {W : World} {base : Nat} {spare : Nat → Bool} {held : Bool} {fuel : Nat} {v : Value} {x : DataW H × List MemPlace} (h : DataW.trod enc Tryz.prog W base spare held fuel 50 [v] = some x) :
    ∃ (p : Option Addr) (b off n cap : Nat) (L : Nat → Ln), v = .slice p n cap ∧ (0 < n → p = some ⟨b, off, none⟩) ∧ LnAt W b off n cap L ∧ (∀ i, i < n → (Lit.int .u32 (L i).pr).wf = true) ∧ (n = 0 ∨ ∃ E S, x.1 = .slice E S ∧ E.length = n) := by
  rcases Deep.open_slice (by kernel_rfl : Tryz.prog.underlying 50 = some (.slice 62)) h with ⟨h0, _⟩ | ⟨a, len, cap, m, k, D, Pl, hcs, hb, hl, hm, hmm, hx, hel⟩
  · refine ⟨none, 0, 0, 0, 0, fun _ => default, by simpa using h0, fun h => absurd h (by omega), ⟨fun h => absurd h (by omega), by omega, by omega, ?_, ?_, ?_, ?_, ?_⟩, fun i hi => absurd hi (by omega), .inl rfl⟩ <;> exact fun i hi => absurd hi (by omega)
  · have hlm : len ≤ m := by rw [hmm]; split <;> omega
    have each : ∀ i, i < len → ∃ l : Ln, (∀ j, j < 5 → W.cell? (a.add (i * 5 + j)) = l.vals[j]?) ∧ (Lit.int .u32 l.pr).wf = true := fun i hi => by
      obtain ⟨cs', h1, h2⟩ := hel i (by omega)
      rw [lnC.1] at h1
      obtain ⟨_, hlen, hcell⟩ := World.cells?_some h1
      obtain ⟨l, rfl, hw⟩ := line_of h2
      exact ⟨l, fun j hj => by rw [← hcell j hj, Deep.add_add], hw⟩
    obtain ⟨L, hL⟩ := Deep.choose_lt each
    have hpl : 0 < len → a = ⟨a.block, a.off, none⟩ := fun h0 => by
      have := (hL 0 h0).1 0 (by omega)
      have h2 : a.add (0 * 5 + 0) = a := by simp [Addr.add]
      rw [h2] at this
      exact plain_at (this.trans (by simp [Ln.vals]; rfl))
    have hat : ∀ i j, i < len → j < 5 → W.cell? ⟨a.block, a.off + i * 5 + j, none⟩ = (L i).vals[j]? := fun i j hi hj => by
      have := (hL i hi).1 j hj
      rw [hpl (by omega), add_plain] at this
      rw [Nat.add_assoc]; exact this
    refine ⟨some a, a.block, a.off, len, cap, L, by simpa using hcs, fun h0 => by rw [← hpl h0], ⟨fun h0 => block_at ((hat 0 0 h0 (by omega)).trans (by simp [Ln.vals]; rfl)), hl, hm, ?_, ?_, ?_, ?_, ?_⟩, fun i hi => (hL i hi).2, .inr ⟨_, _, by rw [hx], by simp⟩⟩
    · exact fun i hi => hat i 0 hi (by omega)
    · exact fun i hi => hat i 1 hi (by omega)
    · exact fun i hi => hat i 2 hi (by omega)
    · exact fun i hi => hat i 3 hi (by omega)
    · exact fun i hi => hat i 4 hi (by omega)
end Go.Proofs
