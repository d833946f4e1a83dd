/- The evaluator and its soundness, part 2: what it tells of a call of a Go function is what the model does, for every tape. -/
import Derived.Test.YtibaafmjbmnpjaaGreatDoorE1
import Derived.Laws.Slices
import Derived.Laws.BytesString
import Derived.MapKept
import Derived.CallsIn
import Derived.OrdersIn
set_option linter.unnecessarySimpa false
set_option linter.unusedVariables false
set_option linter.unusedSimpArgs false
/- Structs, arrays and slices that are written out; parts; conversions. -/
namespace Go.Ev
open Go Go.RowKit

theorem foldl_set_size (off : Nat) : ∀ (l : List (Value × Nat)) (cs : Array Value), (l.foldl (fun cs x => cs.setIfInBounds (off + x.2) x.1) cs).size = cs.size
  | [], cs => rfl
  | x :: l, cs => by simp only [List.foldl_cons]; rw [foldl_set_size off l]; simp
theorem foldl_set_get (off : Nat) : ∀ (l : List Value) (k : Nat) (cs : Array Value) (i : Nat), off + k + l.length ≤ cs.size →
    ((l.zipIdx k).foldl (fun cs x => cs.setIfInBounds (off + x.2) x.1) cs)[i]? = if off + k ≤ i ∧ i < off + k + l.length then l[i - (off + k)]? else cs[i]? := by
  intro l
  induction l with
  | nil => intro k cs i h; simp; omega
  | cons v l ih =>
    intro k cs i h
    simp only [List.zipIdx_cons, List.foldl_cons, List.length_cons] at h ⊢
    rw [ih (k + 1) _ i (by simp; omega)]
    by_cases h1 : off + (k + 1) ≤ i ∧ i < off + (k + 1) + l.length
    · rw [if_pos h1, if_pos (by omega)]
      obtain ⟨m, hm⟩ : ∃ m, i - (off + k) = m + 1 := ⟨i - (off + k) - 1, by omega⟩
      rw [hm, List.getElem?_cons_succ]
      congr 1; omega
    · rw [if_neg h1]
      by_cases h2 : i = off + k
      · subst h2
        rw [if_pos (by omega), Nat.sub_self, List.getElem?_cons_zero, Array.getElem?_setIfInBounds_self_of_lt (by omega)]
      · rw [if_neg (by omega), Array.getElem?_setIfInBounds_ne (by omega)]
theorem fold_parts (off : Nat) (vs cs : Array Value) (h : off + vs.size ≤ cs.size) :
    (vs.zipIdx.foldl (fun cs (c, j) => cs.setIfInBounds (off + j) c) cs).toList = cs.toList.take off ++ (vs.toList ++ cs.toList.drop (off + vs.size)) := by
  have e : vs.zipIdx.foldl (fun cs (c, j) => cs.setIfInBounds (off + j) c) cs = (vs.toList.zipIdx 0).foldl (fun cs x => cs.setIfInBounds (off + x.2) x.1) cs := by
    rw [← Array.foldl_toList, Array.toList_zipIdx]
  rw [e]
  apply List.ext_getElem?
  intro i
  rw [Array.getElem?_toList, foldl_set_get off vs.toList 0 cs i (by simpa using h)]
  simp only [Nat.add_zero, Array.length_toList]
  by_cases h1 : off ≤ i ∧ i < off + vs.size
  · rw [if_pos h1, List.getElem?_append_right (by simp; omega)]
    have hl : (cs.toList.take off).length = off := by simp; omega
    rw [hl, List.getElem?_append_left (by simp; omega)]
  · rw [if_neg h1]
    by_cases h2 : i < off
    · rw [List.getElem?_append_left (by simp; omega), List.getElem?_take_of_lt h2]; simp
    · have hl : (cs.toList.take off).length = off := by simp; omega
      rw [List.getElem?_append_right (by omega), hl, List.getElem?_append_right (by simp; omega), List.getElem?_drop]
      simp only [Array.length_toList]
      rw [show off + vs.size + (i - off - vs.size) = i by omega]; simp

section
variable {P : Program} {N : Nat → Prop} {nt : Nat} {Γ : Ctx} {h h' : Hp} {w : World} {v : AV} {f : F} {a : Act} {o : Oper}

theorem fillL_ok (hR : Rel N Γ h w) (hf : FR nt Γ f a) {place size : Nat → Nat} {pl : Nat → Option (Nat × Nat)} {c : AV → Ev.R} {r : Ev.R} (hr : r ≠ .no) :
    ∀ (ps : List (Nat × Operand)) (l : AV) (us : Array Value), (∀ p ∈ ps, pl p.1 = some (place p.1, size p.1)) → VRs Γ l us.toList → fillL place size f ps c l = r →
      ∃ l' us', c l' = r ∧ Instr.fill pl us (ps.map fun p => (p.1, a.eval p.2)) = some us' ∧ VRs Γ l' us'.toList := by
  intro ps
  induction ps with
  | nil => intro l us hp hv e; exact ⟨l, us, e, rfl, hv⟩
  | cons p ps ih =>
    intro l us hp hv e
    obtain ⟨xs, e2, hx⟩ := cellsK_inv (show cellsK (opd p.2 f) Ev.R.no (fun xs => cond (Bool.and (Nat.beq (lenL xs) (size p.1)) (Nat.ble (Nat.add (place p.1) (size p.1)) (lenL l))) (fillL place size f ps c (appL (takeL (place p.1) l) (appL xs (dropL (Nat.add (place p.1) (size p.1)) l)))) .no) = r from e) hr
    obtain ⟨hb, e3⟩ := cond_inv e2 hr
    rw [Bool.and_eq_true] at hb
    have h1 : lenL xs = size p.1 := Nat.eq_of_beq_eq_true hb.1
    have h2 : place p.1 + size p.1 ≤ lenL l := ble_t hb.2
    have hxs := hx Γ _ (opd_rel hR hf p.2)
    have hsz : (a.eval p.2).cells.size = size p.1 := by rw [← h1, lenL_vals xs _ hxs]; simp
    have hus : us.size = lenL l := by rw [lenL_vals l _ hv]; simp
    have hnew : VRs Γ (appL (takeL (place p.1) l) (appL xs (dropL (Nat.add (place p.1) (size p.1)) l))) ((a.eval p.2).cells.zipIdx.foldl (fun cs (c, j) => cs.setIfInBounds (place p.1 + j) c) us).toList := by
      rw [fold_parts _ _ _ (by rw [hsz, hus]; exact h2), hsz]
      exact appL_vals _ _ _ _ (takeL_vals _ _ _ hv) (appL_vals _ _ _ _ hxs (dropL_vals _ _ _ hv))
    obtain ⟨l', us', e4, h3, h4⟩ := ih _ _ (fun q hq => hp q (List.mem_cons_of_mem _ hq)) hnew e3
    refine ⟨l', us', e4, ?_, h4⟩
    simp only [List.map_cons, Instr.fill, hp p (List.mem_cons_self ..)]
    rw [if_neg (by simp [hsz, hus]; exact h2)]
    exact h3
theorem run_places (fs : List Field) (hfs : ∀ fd ∈ fs, P.info? fd.type ≠ none) : (fs.mapM (fun fd => do pure (fd.offset, ← sizeOf fd.type) : Field → Sem (Nat × Nat))).run P w = .ok (fs.map fun fd => (fd.offset, szOf P fd.type)) w := by
  induction fs with
  | nil => rfl
  | cons fd fs ih =>
    rw [List.mapM_cons]
    simp only [Sem.run_bind, szOf_info (hfs fd (List.mem_cons_self ..)), Result.andThen_ok, Sem.run_pure, ih (fun x hx => hfs x (List.mem_cons_of_mem _ hx)), List.map_cons]
theorem exBuild_ok {t : TypeId} {ps : Array (Nat × Operand)} (hR : Rel N Γ h w) (hf : FR nt Γ f a) (ho : o.op = .build t ps) (e : exBuild P t ps f h = .ok v h') : Gives P N Γ w (execOp a.eval o) v h' := by
  obtain ⟨z, zl, hz, e2, hzl, _⟩ := zeroOf_inv (w := w) (show cellsK (zeroOf P t) Ev.R.no _ = _ from e) ok_ne_no
  cases hbt : btOf P t with
  | bad => rw [hbt] at e2; exact (no_ok (e := e2)).elim
  | st fs =>
    rw [hbt] at e2
    obtain ⟨hall, e3⟩ := cond_inv (show cond (ps.toList.all fun p => Nat.ble (Nat.succ p.1) fs.size) _ Ev.R.no = _ from e2) ok_ne_no
    unfold btOf at hbt
    split at hbt
    · rename_i fs' hu
      split at hbt
      · rename_i hinfo
        cases hbt
        have hin : ∀ fd ∈ fs.toList, P.info? fd.type ≠ none := by
          intro fd hfd
          have := Array.all_eq_true_iff_forall_mem.1 hinfo fd (Array.mem_toList_iff.1 hfd)
          intro hh; rw [hh] at this; simp at this
        have hpl : ∀ p ∈ ps.toList, (fs.toList.map fun fd => (fd.offset, szOf P fd.type)).toArray[p.1]? = some (offOf P t p.1, szOf P (ftyOf P t p.1)) := by
          intro p hp
          have hlt : p.1 < fs.size := ble_t (List.all_eq_true.1 hall p hp)
          simp [offOf, ftyOf, hu, hlt]
        obtain ⟨l', us', e4, h3, h4⟩ := fillL_ok (pl := fun i => (fs.toList.map fun fd => (fd.offset, szOf P fd.type)).toArray[i]?) hR hf ok_ne_no ps.toList zl z.cells hpl (hzl Γ) e3
        obtain ⟨rfl, rfl⟩ := ok_inj e4
        refine .pure hR (val := .agg us') ?_ (by simp only [VR]; exact ⟨us', rfl, h4⟩)
        have hm : (fs.mapM (fun fd => do pure (fd.offset, ← sizeOf fd.type) : Field → Sem (Nat × Nat))).run P w = .ok (fs.toList.map fun fd => (fd.offset, szOf P fd.type)).toArray w := by
          rw [Array.mapM_eq_mapM_toList]
          simp only [Sem.run_map, run_places fs.toList hin, Result.andThen_ok]
        have hps : (Array.map (fun x => (x.1, a.eval x.2)) ps).toList = List.map (fun p => (p.1, a.eval p.2)) ps.toList := by simp
        simp only [execOp, ho, Instr.build, Sem.run_bind, hz, Result.andThen_ok, run_underlying' hu, hm, hps, h3, Sem.run_pure]
      · cases hbt
    · split at hbt <;> cases hbt
    · cases hbt
  | ar el =>
    rw [hbt] at e2
    unfold btOf at hbt
    split at hbt
    · split at hbt <;> cases hbt
    · rename_i n el' hu
      split at hbt
      · rename_i i hi
        cases hbt
        obtain ⟨l', us', e4, h3, h4⟩ := fillL_ok (pl := fun i => some (i * szOf P el, szOf P el)) hR hf ok_ne_no ps.toList zl z.cells (fun p hp => rfl) (hzl Γ) (show fillL (fun i => Nat.mul i (szOf P el)) (fun _ => szOf P el) f ps.toList _ zl = _ from e2)
        obtain ⟨rfl, rfl⟩ := ok_inj e4
        refine .pure hR (val := .agg us') ?_ (by simp only [VR]; exact ⟨us', rfl, h4⟩)
        have hps : (Array.map (fun x => (x.1, a.eval x.2)) ps).toList = List.map (fun p => (p.1, a.eval p.2)) ps.toList := by simp
        have hsz : (sizeOf el).run P w = .ok (szOf P el) w := szOf_info (by rw [hi]; simp)
        simp only [execOp, ho, Instr.build, Sem.run_bind, hz, Result.andThen_ok, run_underlying' hu, hsz, hps, h3, Sem.run_pure]
      · cases hbt
    · cases hbt
theorem exBuildSlice_ok {t : TypeId} {len : Nat} {ps : Array (Nat × Operand)} (hR : Rel N Γ h w) (hf : FR nt Γ f a) (ho : o.op = .buildSlice t len ps) (e : exBuildSlice P t len ps f h = .ok v h') : Gives P N Γ w (execOp a.eval o) v h' := by
  unfold exBuildSlice at e
  cases ht : tyOf P t with
  | sl el =>
    rw [ht] at e
    obtain ⟨hu, hel⟩ := tyOf_sl ht
    obtain ⟨z, zl, hz, e2, hzl, _⟩ := zeroOf_inv (w := w) (show cellsK (zeroOf P el) Ev.R.no _ = _ from e) ok_ne_no
    obtain ⟨hlz, e3⟩ := beq_inv e2 ok_ne_no
    obtain ⟨hmax, e4⟩ := ble_inv e3 ok_ne_no
    have hlen : z.cells.toList.length = szOf P el := by rw [← lenL_vals (Γ := Γ) zl _ (hzl _)]; exact hlz
    obtain ⟨l', us', e5, h3, h4⟩ := fillL_ok (pl := fun i => some (i * szOf P el, szOf P el)) hR hf ok_ne_no ps.toList (repL len zl) (rep len z.cells.toList).toArray (fun p hp => rfl) (by simpa using repL_vals len (hzl Γ)) e4
    obtain ⟨ob, e6, hob⟩ := mkK_inv e5 ok_ne_no
    obtain ⟨hn, e7⟩ := newR_inv e6 ok_ne_no
    obtain ⟨rfl, rfl⟩ := ok_inj e7
    obtain ⟨Δ, hle, h1, h2, h5, h6, h7⟩ := newRow_ok (P := P) (us := us'.toList) hR hn (fun Δ hle => hob Δ _ (h4.mono hle)) el
    simp only [Array.toArray_toList] at h5 h6 h7
    refine ⟨Δ, .slice (some ⟨w.heap.size, 0, none⟩) len len, _, _, ?_, .inl rfl, hle, ?_, h6, h7⟩
    · have hps : (Array.map (fun x => (x.1, a.eval x.2)) ps).toList = List.map (fun p => (p.1, a.eval p.2)) ps.toList := by simp
      have hmax' : ¬ len * szOf P el > 2 ^ 24 := by have : len * szOf P el ≤ 16777216 := hmax; omega
      have hcells : Array.map (fun i => (if len * szOf P el = 0 then #[] else z.cells)[i % (if len * szOf P el = 0 then #[] else z.cells).size]!) (Array.range (len * szOf P el)) = (rep len z.cells.toList).toArray := by
        by_cases h0 : len * szOf P el = 0
        · rw [h0]
          have : rep len z.cells.toList = [] := List.eq_nil_of_length_eq_zero (by rw [rep_length, hlen, h0])
          rw [this]; simp
        · rw [if_neg h0]
          have := range_mod len z.cells.toList
          rw [hlen] at this
          apply Array.toList_inj.1
          simpa using this
      by_cases h0 : len * szOf P el = 0
      · rw [if_pos h0] at hcells
        simp only [execOp, ho, Instr.buildSlice, Sem.run_bind, run_underlying' hu, Result.andThen_ok, szOf_info hel, Sem.run_ite, if_neg hmax', if_pos h0, Sem.run_pure, hcells, hps, h3, h5]
      · rw [if_neg h0] at hcells
        simp only [execOp, ho, Instr.buildSlice, Sem.run_bind, run_underlying' hu, Result.andThen_ok, szOf_info hel, Sem.run_ite, if_neg hmax', if_neg h0, hz, Sem.run_pure, hcells, hps, h3, h5]
    · simp only [VR]
      exact ⟨_, 0, len, h1, by simp, Nat.le_refl _, fun _ => rfl, fun hh => by cases hh⟩
  | ar n el => rw [ht] at e; exact (no_ok (e := e)).elim
  | st => rw [ht] at e; exact (no_ok (e := e)).elim
  | bad => rw [ht] at e; exact (no_ok (e := e)).elim
end
end Go.Ev

/- Parts of structs and arrays; slice expressions. -/
namespace Go.Ev
open Go Go.RowKit

section
variable {P : Program} {N : Nat → Prop} {nt : Nat} {Γ : Ctx} {h h' : Hp} {w : World} {v : AV} {f : F} {a : Act} {o : Oper}

theorem partR_ok {t : TypeId} {l : AV} {off : Nat} {cs : Array Value} (hv : VRs Γ l cs.toList) (e : partR P t l off h = .ok v h') : ∃ u, (part t cs off).run P w = .ok u w ∧ VR Γ v u ∧ h' = h := by
  unfold partR at e
  cases hag : agT P t with
  | agg =>
    rw [hag] at e
    obtain ⟨rfl, rfl⟩ := ok_inj (show Ev.R.ok (.agg (takeL (szOf P t) (dropL off l))) h = _ from e)
    obtain ⟨h1, h2⟩ := agT_agg (w := w) hag
    refine ⟨.agg (cs.extract off (off + szOf P t)), by simp [part, h1, szOf_info h2], ?_, rfl⟩
    simp only [VR]
    refine ⟨_, rfl, ?_⟩
    have := takeL_vals (szOf P t) _ _ (dropL_vals off l _ hv)
    have e2 : (cs.extract off (off + szOf P t)).toList = (cs.toList.drop off).take (szOf P t) := by
      rw [Array.toList_extract, List.extract_eq_take_drop, Nat.add_sub_cancel_left]
    rw [e2]; exact this
  | one =>
    rw [hag] at e
    obtain ⟨hi, e2⟩ := ble_inv (show cond (Nat.ble (Nat.succ off) (lenL l)) _ Ev.R.no = _ from e) ok_ne_no
    obtain ⟨rfl, rfl⟩ := ok_inj e2
    obtain ⟨u, hu, hvr⟩ := nthL_vals off l _ hv hi
    obtain ⟨h1, _⟩ := agT_one (w := w) hag
    have hu' : cs[off]? = some u := by rw [← Array.getElem?_toList]; exact hu
    exact ⟨u, by simp [part, h1, hu'], hvr, rfl⟩
  | bad => rw [hag] at e; exact (no_ok (e := e)).elim
theorem exField_ok {t : TypeId} {x : Operand} {i : Nat} (hR : Rel N Γ h w) (hf : FR nt Γ f a) (ho : o.op = .field t x i) (e : exField P t x i f h = .ok v h') : Gives P N Γ w (execOp a.eval o) v h' := by
  obtain ⟨hfld, e1⟩ := cond_inv (show cond (fldB P t i) _ _ = _ from e) ok_ne_no
  obtain ⟨l, hx, e2⟩ := AV.aggK_inv e1 ok_ne_no
  have hxr := opd_rel hR hf x
  rw [hx] at hxr; simp only [VR] at hxr
  obtain ⟨cs, hp, hvs⟩ := hxr
  obtain ⟨u, hu, hvr, rfl⟩ := partR_ok (w := w) hvs e2
  unfold fldB at hfld
  split at hfld
  · rename_i fs hul
    split at hfld
    · rename_i fd hfd
      have h1 : offOf P t i = fd.offset := by simp [offOf, hul, hfd]
      have h2 : ftyOf P t i = fd.type := by simp [ftyOf, hul, hfd]
      rw [h1, h2] at hu
      exact .pure hR (val := u) (by simp [execOp, ho, Instr.field, run_underlying' hul, hfd, hp, asAgg, hu]) hvr
    · cases hfld
  · cases hfld
theorem exIndex_ok {t : TypeId} {x y : Operand} (hR : Rel N Γ h w) (hf : FR nt Γ f a) (ho : o.op = .index t x y) (e : exIndex P t x y f h = .ok v h') : Gives P N Γ w (execOp a.eval o) v h' := by
  have hxr := opd_rel hR hf x
  have hyr := opd_rel hR hf y
  unfold exIndex at e
  cases ht : tyOf P t with
  | sl el => rw [ht] at e; exact (no_ok (e := e)).elim
  | bad => rw [ht] at e; exact (no_ok (e := e)).elim
  | ar n el =>
    rw [ht] at e
    obtain ⟨hu, hel⟩ := tyOf_ar ht
    obtain ⟨l, hx, e2⟩ := AV.aggK_inv (show AV.aggK (opd x f) Ev.R.no _ = _ from e) ok_ne_no
    obtain ⟨j, i, hy, e3⟩ := natI_inv e2 ok_ne_no
    obtain ⟨hi, e4⟩ := ble_inv e3 ok_ne_no
    rw [hx] at hxr; rw [hy] at hyr; simp only [VR] at hxr hyr
    obtain ⟨cs, hp, hvs⟩ := hxr
    obtain ⟨u, hu', hvr, rfl⟩ := partR_ok (w := w) hvs e4
    have hb : (0 : Int) ≤ Int.ofNat i ∧ Int.ofNat i < (n : Int) := by constructor; exact Int.natCast_nonneg i; exact Int.ofNat_lt.2 hi
    refine .pure hR (val := u) ?_ hvr
    have hu2 : (part el cs ((Int.ofNat i).toNat * szOf P el)).run P w = .ok u w := hu'
    simp only [execOp, ho, Instr.index, hp, hyr, asIntOf, Sem.run_bind, Sem.run_pure, run_underlying' hu, Result.andThen_ok, Sem.run_ite, if_pos hb, szOf_info hel, hu2]
  | st =>
    rw [ht] at e
    have hu := tyOf_st ht
    obtain ⟨n, s, hx, e2⟩ := AV.strK_inv (show AV.strK (opd x f) Ev.R.no _ = _ from e) ok_ne_no
    obtain ⟨j, i, hy, e3⟩ := natI_inv e2 ok_ne_no
    obtain ⟨hi, e4⟩ := ble_inv e3 ok_ne_no
    rw [forceN_eq] at e4
    obtain ⟨rfl, rfl⟩ := okI_ok e4
    rw [hx] at hxr; rw [hy] at hyr; simp only [VR] at hxr hyr
    obtain ⟨hp, hs⟩ := hxr
    have hi : i < n := hi
    have hget : (bstr n s)[i]? = some (UInt8.ofNat (byteAt s i)) := by
      rw [ByteArray.getElem?_lt' _ _ (by rw [bstr_size]; exact hi)]
      have := bl_get n s i hi
      rw [List.getElem?_eq_getElem (by rw [bl_length]; exact hi)] at this
      exact this
    refine .pure hR (val := .int .u8 (Int.ofNat (byteAt s i))) ?_ (by simp only [VR])
    have h0 : (0 : Int) ≤ Int.ofNat i := Int.natCast_nonneg i
    have ht' : (Int.ofNat i).toNat = i := rfl
    have hb : ((UInt8.ofNat (byteAt s i)).toNat : Int) = Int.ofNat (byteAt s i) := by
      have := byteAt_lt s i
      simp [Nat.mod_eq_of_lt this]
    simp only [execOp, ho, Instr.index, hp, hyr, asIntOf, Sem.run_bind, Sem.run_pure, run_underlying' hu, Result.andThen_ok, if_pos h0, ht', hget, hb]
theorem exS2ap_ok {t : TypeId} {x : Operand} (hR : Rel N Γ h w) (hf : FR nt Γ f a) (ho : o.op = .sliceToArrayPointer t x) (e : exS2ap P t x f h = .ok v h') : Gives P N Γ w (execOp a.eval o) v h' := by
  have hxr := opd_rel hR hf x
  unfold exS2ap at e
  cases ht : tyOf P t with
  | sl el => rw [ht] at e; exact (no_ok (e := e)).elim
  | bad => rw [ht] at e; exact (no_ok (e := e)).elim
  | st => rw [ht] at e; exact (no_ok (e := e)).elim
  | ar n el =>
    rw [ht] at e
    obtain ⟨hu, hel⟩ := tyOf_ar ht
    obtain ⟨b, q, len, cp, es, ex, hx, e2⟩ := AV.slcK_inv (show AV.slcK (opd x f) Ev.R.no _ = _ from e) ok_ne_no
    obtain ⟨hl, e3⟩ := ble_inv e2 ok_ne_no
    obtain ⟨_, e4⟩ := beq_inv e3 ok_ne_no
    obtain ⟨rfl, rfl⟩ := ok_inj e4
    rw [hx] at hxr; simp only [VR] at hxr
    obtain ⟨d, q', cap, hs, hp, _⟩ := hxr
    refine .pure hR (val := .pointer (some ⟨d, q' + q, none⟩)) ?_ (by simp only [VR]; exact ⟨_, _, hs, rfl⟩)
    have : ¬ len < n := by omega
    simp [execOp, ho, Instr.arrayAt, run_underlying' hu, hp, this]

/-! slice expressions -/
theorem optN_inv {x : Option Operand} {dflt : Nat} {c : Nat → Ev.R} {r : Ev.R} (hR : Rel N Γ h w) (hf : FR nt Γ f a) (e : optN (x.map (opd · f)) dflt c = r) (hr : r ≠ .no) :
    ∃ n, c n = r ∧ ((x = none ∧ n = dflt) ∨ (∃ y k, x = some y ∧ a.eval y = .int k (Int.ofNat n))) := by
  cases x with
  | none => exact ⟨dflt, e, .inl ⟨rfl, rfl⟩⟩
  | some y =>
    obtain ⟨j, n, hy, e2⟩ := natI_inv (show natI (opd y f) c = r from e) hr
    have := opd_rel hR hf y
    rw [hy] at this; simp only [VR] at this
    exact ⟨n, e2, .inr ⟨y, j, rfl, this⟩⟩
theorem isS_map (x : Option Operand) : isS (x.map (opd · f)) = x.isSome := by cases x <;> rfl
theorem boundsK_ok {len cap cap' : Nat} {lo hi mx : Option Operand} {c : Nat → Nat → Nat → Ev.R} {r : Ev.R} (hR : Rel N Γ h w) (hf : FR nt Γ f a) (hc : cap ≤ cap') (isl : Bool)
    (e : boundsK len cap (lo.map (opd · f)) (hi.map (opd · f)) (mx.map (opd · f)) c = r) (hr : r ≠ .no) :
    ∃ l h m, c l h m = r ∧ l ≤ h ∧ h ≤ m ∧ m ≤ cap ∧ (mx = none → m = cap) ∧ (Instr.sliceBounds isl len cap' (lo.map a.eval) (hi.map a.eval) (mx.map a.eval)).run P w = .ok (l, h, if mx.isSome then m else cap') w := by
  have e : cond (Bool.and (isS (mx.map (opd · f))) (Bool.not (isS (hi.map (opd · f))))) Ev.R.no _ = r := e
  have hmh : ¬ (mx.isSome = true ∧ hi = none) := by
    rintro ⟨h1, h2⟩
    rw [isS_map, isS_map, h1, h2] at e
    exact absurd e.symm hr
  have e1 : optN (mx.map (opd · f)) cap (fun m => cond (Nat.ble m cap) (optN (hi.map (opd · f)) len fun h => cond (Nat.ble h m) (optN (lo.map (opd · f)) 0 fun l => cond (Nat.ble l h) (c l h m) .no) .no) .no) = r := by
    cases hb : Bool.and (isS (mx.map (opd · f))) (Bool.not (isS (hi.map (opd · f)))) <;> rw [hb] at e
    · exact e
    · exact absurd e.symm hr
  obtain ⟨m, e2, hm⟩ := optN_inv hR hf e1 hr
  obtain ⟨hm1, e3⟩ := ble_inv e2 hr
  obtain ⟨hh, e4, hhi⟩ := optN_inv hR hf e3 hr
  obtain ⟨hh1, e5⟩ := ble_inv e4 hr
  obtain ⟨l, e6, hlo⟩ := optN_inv hR hf e5 hr
  obtain ⟨hl1, e7⟩ := ble_inv e6 hr
  refine ⟨l, hh, m, e7, hl1, hh1, hm1, fun hn => ?_, ?_⟩
  · rcases hm with ⟨_, h⟩ | ⟨y, k, h, _⟩
    · exact h
    · rw [hn] at h; cases h
  · have sb : ∀ (k : IntKind) (n y : Nat) (code : BoundsCode), n ≤ y → (Instr.sliceBound (.int k (Int.ofNat n)) y code).run P w = .ok n w := by
      intro k n y code hny
      have := run_sliceBound (P := P) w k (Int.ofNat n) y code (Int.natCast_nonneg n) (Int.ofNat_le.2 hny)
      simpa using this
    rcases hm with ⟨rfl, rfl⟩ | ⟨ym, km, rfl, hym⟩ <;> rcases hhi with ⟨rfl, rfl⟩ | ⟨yh, kh, rfl, hyh⟩ <;> rcases hlo with ⟨rfl, rfl⟩ | ⟨yl, kl, rfl, hyl⟩ <;> first
      | (exact absurd ⟨rfl, rfl⟩ hmh)
      | (simp only [Instr.sliceBounds, Option.map_none, Option.map_some, Sem.run_bind, Sem.run_pure, Result.andThen_ok, hym, hyh, hyl, sb km m cap' _ (by omega), sb kh hh _ _ hh1, sb kl l _ _ hl1, Option.isSome_some, if_true]; done)
      | (simp only [Instr.sliceBounds, Option.map_none, Option.map_some, Sem.run_bind, Sem.run_pure, Result.andThen_ok, hym, hyh, sb km m cap' _ (by omega), sb kh hh _ _ hh1, Option.isSome_some, if_true]; done)
      | (simp only [Instr.sliceBounds, Option.map_none, Option.map_some, Sem.run_bind, Sem.run_pure, Result.andThen_ok, hyh, hyl, sb kh hh _ _ (Nat.le_trans hh1 hc), sb kl l _ _ hl1]; rfl)
      | (simp only [Instr.sliceBounds, Option.map_none, Option.map_some, Sem.run_bind, Sem.run_pure, Result.andThen_ok, hyh, sb kh hh _ _ (Nat.le_trans hh1 hc)]; rfl)
      | (simp only [Instr.sliceBounds, Option.map_none, Option.map_some, Sem.run_bind, Sem.run_pure, Result.andThen_ok, hyl, sb kl l _ _ hl1]; rfl)
      | (simp only [Instr.sliceBounds, Option.map_none, Option.map_some, Sem.run_bind, Sem.run_pure, Result.andThen_ok]; rfl)
/-- a part of a row -/
theorem subSl_ok {b q es l hh m m' d q' : Nat} {ex : Bool} (hs : Γ.σ b = some (d, q')) (e : subSl b q es ex l hh m h = .ok v h') (h1 : l ≤ hh) (h2 : hh ≤ m) (h3 : m ≤ m') (hex : ex = true → m' = m) (hop : ex = false → q' + q + m' * es ≤ Γ.sz d) :
    h' = h ∧ VR Γ v (.slice (if m' = l then some ⟨d, q' + q, none⟩ else some ⟨d, q' + q + l * es, none⟩) (hh - l) (m' - l)) := by
  unfold subSl at e
  cases hb : Nat.beq m l <;> rw [hb] at e
  · have hne : m ≠ l := fun e => by rw [e, Nat.beq_refl] at hb; cases hb
    have e : forceN (Nat.add q (Nat.mul l es)) (fun o => forceN (Nat.sub hh l) fun n => forceN (Nat.sub m l) fun c => Ev.R.ok (.slc b o n c es ex) h) = .ok v h' := e
    rw [forceN_eq, forceN_eq, forceN_eq] at e
    obtain ⟨rfl, rfl⟩ := ok_inj e
    refine ⟨rfl, ?_⟩
    rw [if_neg (by omega)]
    simp only [VR]
    refine ⟨d, q', m' - l, hs, by rw [Nat.add_assoc]; rfl, by show hh - l ≤ m' - l; omega, fun he => by rw [hex he]; rfl, fun he => ⟨by show m - l ≤ m' - l; omega, ?_⟩⟩
    have := hop he
    show q' + (q + l * es) + (m' - l) * es ≤ _
    have h5 : l * es + (m' - l) * es = m' * es := by rw [← Nat.add_mul]; congr 1; omega
    omega
  · have hml := Nat.eq_of_beq_eq_true hb
    subst hml
    have e : Bool.rec (motive := fun _ => Ev.R) (.ok (.slx 0) h) (.ok (.slc b q 0 0 es true) h) ex = .ok v h' := e
    have hh0 : hh - m = 0 := by omega
    cases ex
    · obtain ⟨rfl, rfl⟩ := ok_inj (show Ev.R.ok (.slx 0) h = _ from e)
      refine ⟨rfl, ?_⟩
      rw [hh0]
      simp only [VR]
      split
      · exact ⟨_, _, rfl, Nat.zero_le _⟩
      · exact ⟨_, _, rfl, Nat.zero_le _⟩
    · obtain ⟨rfl, rfl⟩ := ok_inj (show Ev.R.ok (.slc b q 0 0 es true) h = _ from e)
      refine ⟨rfl, ?_⟩
      rw [hh0, hex rfl, if_pos rfl, Nat.sub_self]
      simp only [VR]
      exact ⟨d, q', 0, hs, rfl, Nat.le_refl _, fun _ => rfl, fun he => by cases he⟩
end
end Go.Ev

/- Slice expressions and conversions whole. -/
namespace Go.Ev
open Go Go.RowKit

theorem bl_drop (n x l : Nat) : (bl n x).drop l = bl (n - l) (x / 256 ^ l) := by
  induction l generalizing n x with
  | zero => simp
  | succ l ih =>
    cases n with
    | zero => simp [bl]
    | succ n =>
      simp only [bl, List.drop_succ_cons, Nat.add_sub_add_right]
      rw [ih, Nat.div_div_eq_div_mul, Nat.pow_succ, Nat.mul_comm 256]
theorem bl_take (n x m : Nat) (h : m ≤ n) : (bl n x).take m = bl m (x % 256 ^ m) := by
  apply List.ext_getElem?
  intro i
  by_cases hi : i < m
  · rw [List.getElem?_take_of_lt hi, bl_get n x i (by omega), bl_get m _ i hi]
    have : byteAt (x % 256 ^ m) i = byteAt x i := by rw [← lowB_eq]; exact byteAt_low hi
    rw [this]
  · rw [List.getElem?_eq_none (by simp; omega), List.getElem?_eq_none (by rw [bl_length]; omega)]
theorem bstr_extract {n s l h : Nat} (h1 : l ≤ h) (h2 : h ≤ n) : (bstr n s).extract l h = bstr (h - l) (lowB (Nat.shiftRight s (Nat.mul 8 l)) (h - l)) := by
  apply ByteArray.ext
  rw [ByteArray.data_extract]
  apply Array.toList_inj.1
  rw [Array.toList_extract, List.extract_eq_take_drop]
  show ((bl n s).drop l).take (h - l) = bl (h - l) _
  rw [bl_drop, bl_take _ _ _ (by omega), lowB_eq, shr8]

section
variable {P : Program} {N : Nat → Prop} {nt : Nat} {Γ : Ctx} {h h' : Hp} {w : World} {v : AV} {f : F} {a : Act} {o : Oper}

theorem tyOf_bad_ptr {t : TypeId} (h : slT P t = .st) : tyOf P t = .st := by
  unfold slT at h
  split at h
  · split at h
    · unfold slT.tyP at h; split at h <;> cases h
    · cases h
  · exact h
theorem slT_sl {t el : TypeId} (h : slT P t = .sl el) : tyOf P t = .sl el := by
  unfold slT at h
  split at h
  · split at h
    · unfold slT.tyP at h; split at h <;> cases h
    · cases h
  · exact h
theorem slT_ar {t el : TypeId} {n : Nat} (h : slT P t = .ar n el) : tyOf P t = .ar n el ∨ (∃ b, P.underlying t = some (.pointer b) ∧ tyOf P b = .ar n el) := by
  unfold slT at h
  split at h
  · split at h
    · rename_i b hu
      unfold slT.tyP at h
      split at h
      · rename_i n' el' hb; cases h; exact .inr ⟨b, hu, hb⟩
      · cases h
    · cases h
  · exact .inl h
theorem exSlice_ok {t : TypeId} {x : Operand} {lo hi mx : Option Operand} (hR : Rel N Γ h w) (hf : FR nt Γ f a) (ho : o.op = .slice t x lo hi mx) (e : exSlice P t x lo hi mx f h = .ok v h') : Gives P N Γ w (execOp a.eval o) v h' := by
  have hxr := opd_rel hR hf x
  unfold exSlice at e
  cases ht : slT P t with
  | bad => rw [ht] at e; exact (no_ok (e := e)).elim
  | st =>
    rw [ht] at e
    have hu := tyOf_st (tyOf_bad_ptr ht)
    have e : cond (isS (mx.map (opd · f))) Ev.R.no (sliceStr (opd x f) (lo.map (opd · f)) (hi.map (opd · f)) h) = .ok v h' := e
    have hmx : mx = none := by
      cases mx with
      | none => rfl
      | some y => exact (no_ok (e := e)).elim
    subst hmx
    obtain ⟨n, s, hx, e2⟩ := AV.strK_inv (show AV.strK (opd x f) Ev.R.no _ = _ from e) ok_ne_no
    obtain ⟨l, hh, m, e3, h1, h2, h3, h4, h5⟩ := boundsK_ok (P := P) (mx := none) hR hf (Nat.le_refl n) false e2 ok_ne_no
    obtain ⟨rfl, rfl⟩ := strR_ok e3
    rw [hx] at hxr; simp only [VR] at hxr
    obtain ⟨hp, hs⟩ := hxr
    refine .pure hR (val := .string ((bstr n s).extract l hh)) ?_ ?_
    · simp only [Option.map_none] at h5
      simp [execOp, ho, Instr.sliceAt, run_underlying' hu, Instr.slice, hp, bstr_size, h5]
    · simp only [VR]
      rw [bstr_extract h1 (by omega)]
      exact ⟨rfl, lowB_lt _ _⟩
  | sl el =>
    rw [ht] at e
    obtain ⟨hu, hel⟩ := tyOf_sl (slT_sl ht)
    have e : sliceSl (szOf P el) (opd x f) (lo.map (opd · f)) (hi.map (opd · f)) (mx.map (opd · f)) h = .ok v h' := e
    unfold sliceSl at e
    generalize hox : opd x f = ox at e hxr
    cases ox with
    | slc b q n cp es ex =>
      have e : cond (Nat.beq es (szOf P el)) (boundsK n cp (lo.map (opd · f)) (hi.map (opd · f)) (mx.map (opd · f)) fun l hh m => subSl b q (szOf P el) (Bool.or ex (isS (mx.map (opd · f)))) l hh m h) Ev.R.no = .ok v h' := e
      obtain ⟨hes, e2⟩ := beq_inv e ok_ne_no
      simp only [VR] at hxr
      obtain ⟨d, q', cap, hs, hp, hn, hex, hop⟩ := hxr
      have hcap : cp ≤ cap := by
        cases hx : ex
        · exact (hop hx).1
        · rw [hex hx]; exact Nat.le_refl _
      obtain ⟨l, hh, m, e3, h1, h2, h3, h4, h5⟩ := boundsK_ok (P := P) hR hf hcap true e2 ok_ne_no
      rw [isS_map] at e3
      have hm' : m ≤ (if mx.isSome then m else cap) := by split; exact Nat.le_refl _; omega
      obtain ⟨rfl, hv⟩ := subSl_ok (m' := if mx.isSome then m else cap) hs e3 h1 h2 hm' (fun he => by
        rw [Bool.or_eq_true] at he
        cases hmx : mx with
        | some _ => simp
        | none =>
          rw [hmx] at he
          have := hex (he.resolve_right (by simp))
          simp [this, h4 hmx]) (fun he => by
        rw [Bool.or_eq_false_iff] at he
        rw [he.2, ← hes]
        exact (hop he.1).2)
      refine .pure hR (val := _) ?_ hv
      simp only [execOp, ho, Instr.sliceAt, run_underlying' hu, Instr.slice, hp, Sem.run_bind, Result.andThen_ok, h5, szOf_info hel, Sem.run_pure, Option.map_some, add_eq]
    | nils =>
      have e : boundsK 0 0 (lo.map (opd · f)) (hi.map (opd · f)) (mx.map (opd · f)) (fun _ _ _ => Ev.R.ok .nils h) = .ok v h' := e
      simp only [VR] at hxr
      obtain ⟨l, hh, m, e3, h1, h2, h3, h4, h5⟩ := boundsK_ok (P := P) hR hf (Nat.le_refl 0) true e ok_ne_no
      obtain ⟨rfl, rfl⟩ := ok_inj e3
      have hm0 : (if mx.isSome = true then m else 0) = 0 := by split <;> omega
      refine .pure hR (val := .slice none 0 0) ?_ (by simp only [VR])
      rw [hm0] at h5
      simp only [execOp, ho, Instr.sliceAt, run_underlying' hu, Instr.slice, hxr, Sem.run_bind, Result.andThen_ok, h5, szOf_info hel, Sem.run_pure, Option.map_none]
      rw [show l = 0 by omega, show hh = 0 by omega]; rfl
    | slx n =>
      have e : boundsK n n (lo.map (opd · f)) (hi.map (opd · f)) (mx.map (opd · f)) (fun l hh _ => cond (isS (mx.map (opd · f))) Ev.R.no (forceN (Nat.sub hh l) fun n => .ok (.slx n) h)) = .ok v h' := e
      simp only [VR] at hxr
      obtain ⟨ad, cap, hp, hn⟩ := hxr
      obtain ⟨l, hh, m, e3, h1, h2, h3, h4, h5⟩ := boundsK_ok (P := P) hR hf hn true e ok_ne_no
      rw [isS_map] at e3
      cases hmx : mx with
      | some y => rw [hmx] at e3; exact (no_ok (e := e3)).elim
      | none =>
        rw [hmx] at e3 h5
        have e4 : forceN (Nat.sub hh l) (fun n => Ev.R.ok (.slx n) h) = .ok v h' := e3
        rw [forceN_eq] at e4
        obtain ⟨rfl, rfl⟩ := ok_inj e4
        refine .pure hR (val := .slice (if cap = l then some ad else (some ad).map (·.add (l * szOf P el))) (hh - l) (cap - l)) ?_ ?_
        · simp only [Option.isSome_none, Bool.false_eq_true, if_false] at h5
          simp only [execOp, ho, hmx, Instr.sliceAt, run_underlying' hu, Instr.slice, hp, Sem.run_bind, Result.andThen_ok, h5, szOf_info hel, Sem.run_pure]
        · simp only [VR, Option.map_some]
          split
          · exact ⟨_, _, rfl, by show hh - l ≤ cap - l; omega⟩
          · exact ⟨_, _, rfl, by show hh - l ≤ cap - l; omega⟩
    | _ => exact (no_ok (e := e)).elim
  | ar n el =>
    rw [ht] at e
    have e : sliceArr n (szOf P el) (opd x f) (lo.map (opd · f)) (hi.map (opd · f)) (mx.map (opd · f)) h = .ok v h' := e
    obtain ⟨b, q, hx, e2⟩ := AV.ptrK_inv (show AV.ptrK (opd x f) Ev.R.no _ = _ from e) ok_ne_no
    rw [hx] at hxr; simp only [VR] at hxr
    obtain ⟨d, q', hs, hp⟩ := hxr
    obtain ⟨l, hh, m, e3, h1, h2, h3, h4, h5⟩ := boundsK_ok (P := P) hR hf (Nat.le_refl n) false e2 ok_ne_no
    have hmm : (if mx.isSome = true then m else n) = m := by
      cases hmx : mx with
      | some _ => rfl
      | none => simp [h4 hmx]
    rw [hmm] at h5
    obtain ⟨rfl, hv⟩ := subSl_ok (m' := m) hs e3 h1 h2 (Nat.le_refl _) (fun _ => rfl) (fun he => by cases he)
    refine .pure hR (val := _) ?_ hv
    rcases slT_ar ht with ht | ⟨b', hu', ht⟩
    · obtain ⟨hu, hel⟩ := tyOf_ar ht
      simp only [execOp, ho, Instr.sliceAt, run_underlying' hu, Instr.sureAddr, hp, Sem.run_bind, Result.andThen_ok, h5, szOf_info hel, Sem.run_pure, add_eq]
      split <;> rfl
    · obtain ⟨hu, hel⟩ := tyOf_ar ht
      simp only [execOp, ho, Instr.sliceAt, run_underlying' hu', Instr.slice, asAddr, run_underlying' hu, hp, Sem.run_bind, Result.andThen_ok, h5, szOf_info hel, Sem.run_pure, add_eq]
      split <;> rfl
end
end Go.Ev

/- Rows of cells: read, joined, put. -/
namespace Go.Ev
open Go Go.RowKit

/-- a row stands for values -/
def RwR (Γ : Ctx) : Rw → List Value → Prop
  | .bs n x, us => us.length = n ∧ x < 256 ^ n ∧ ∀ i, i < n → us[i]? = some (.int .u8 (Int.ofNat (byteAt x i)))
  | .cs l, us => VRs Γ l us
theorem RwR.mono {Γ Δ : Ctx} (h : Γ.Le Δ) {r : Rw} {us : List Value} (hr : RwR Γ r us) : RwR Δ r us := by
  cases r with
  | bs n x => exact hr
  | cs l => exact VRs.mono h hr
theorem bytesL_vals (Γ : Ctx) : ∀ (n x : Nat) (us : List Value), us.length = n → (∀ i, i < n → us[i]? = some (.int .u8 (Int.ofNat (byteAt x i)))) → VRs Γ (bytesL n x) us := by
  intro n
  induction n with
  | zero => intro x us h _; show VRs Γ .nl us; simp only [VRs]; exact List.eq_nil_of_length_eq_zero h
  | succ n ih =>
    intro x us h hb
    cases us with
    | nil => simp at h
    | cons u us =>
      have h0 := hb 0 (by omega)
      simp only [List.getElem?_cons_zero, Option.some.injEq] at h0
      show VRs Γ (.cn (.int .u8 (.ofNat (x % 256))) (bytesL n (x / 256))) _
      simp only [VRs, VR]
      refine ⟨u, us, rfl, by rw [h0, byteAt_zero], ih _ _ (by simpa using h) fun i hi => ?_⟩
      have := hb (i + 1) (by omega)
      rw [List.getElem?_cons_succ, byteAt_succ] at this; exact this
theorem Rw.list_vals {Γ : Ctx} {r : Rw} {us : List Value} (h : RwR Γ r us) : VRs Γ r.list us := by
  cases r with
  | bs n x => exact bytesL_vals Γ n x us h.1 h.2.2
  | cs l => exact h
theorem Rw.packK_inv {Γ : Ctx} {r : Rw} {us : List Value} {α : Type} {d y : α} {c : Nat → Nat → α} (h : RwR Γ r us) (e : r.packK d c = y) (hy : y ≠ d) :
    ∃ n x, c n x = y ∧ us.length = n ∧ x < 256 ^ n ∧ ∀ i, i < n → us[i]? = some (.int .u8 (Int.ofNat (byteAt x i))) := by
  cases r with
  | bs n x => exact ⟨n, x, e, h⟩
  | cs l =>
    obtain ⟨n, x, hp, e2⟩ := Ev.packK_inv hy l c e
    obtain ⟨h1, h2, h3⟩ := PackIs.spec l n x us hp h
    exact ⟨n, x, e2, h1, h2, h3⟩

section
variable {P : Program} {N : Nat → Prop} {nt : Nat} {Γ : Ctx} {h h' : Hp} {w : World} {v : AV} {f : F} {a : Act} {o : Oper}

theorem rowK_ok (hR : Rel N Γ h w) {b c q p n : Nat} (hs : Γ.σ b = some (c, q)) {k : Rw → Ev.R} {r : Ev.R} (e : rowK (obAt b h) p n .no k = r) (hr : r ≠ .no) :
    ∃ rw us, k rw = r ∧ us.length = n ∧ RwR Γ rw us ∧ ∀ j u, us[j]? = some u → w.cell? ⟨c, q + p + j, none⟩ = some u := by
  cases hob : obAt b h with
  | cells m t =>
    rw [hob] at e
    obtain ⟨l, hl, e2⟩ := readK_inv (show readK (.cells m t) p n .no (fun l => k (.cs l)) = r from e) hr
    rw [← hob] at hl
    obtain ⟨us, h1, h2, h3⟩ := TakeC.vals hR hs _ _ _ [] hl (by simp only [VRs])
    rw [List.append_nil] at h3
    exact ⟨_, us, e2, h1, h3, h2⟩
  | bytes m x =>
    rw [hob] at e
    obtain ⟨hle, e2⟩ := ble_inv (show cond (Nat.ble (Nat.add p n) m) (forceN (lowB (Nat.shiftRight x (Nat.mul 8 p)) n) fun y => k (.bs n y)) Ev.R.no = r from e) hr
    rw [forceN_eq] at e2
    have hle : p + n ≤ m := hle
    refine ⟨_, (List.range n).map fun i => .int .u8 (Int.ofNat (byteAt x (p + i))), e2, by simp, ⟨by simp, lowB_lt _ _, fun i hi => ?_⟩, fun j u hj => ?_⟩
    · rw [byteAt_low hi, byteAt_shr]; simp [hi]
    · have hj' : j < n := by
        by_cases h0 : j < n
        · exact h0
        · rw [List.getElem?_eq_none (by simp; omega)] at hj; cases hj
      simp [hj'] at hj
      subst hj
      have hc : CellIs (obAt b h) (p + j) (.int .u8 (.ofNat (byteAt x (p + j)))) := .inr ⟨m, x, hob, by omega, rfl⟩
      obtain ⟨u, hu, hv, _⟩ := hR.cell hs hc
      simp only [VR] at hv; subst hv
      rw [← Nat.add_assoc] at hu; exact hu
  | _ => rw [hob] at e; exact absurd e.symm hr
/-- the lengths of slices and strings -/
theorem lenK_ok {x : AV} {u : Value} {k : Nat → Ev.R} {r : Ev.R} (e : lenK x .no k = r) (hr : r ≠ .no) (hx : VR Γ x u) : ∃ n, k n = r ∧ (Builtin.lenOf u).run P w = .ok n w ∧ ((∃ a c, u = .slice a n c) ∨ (∃ s, u = .string s ∧ s.size = n)) := by
  unfold lenK at e
  cases x with
  | slc b q n c es ex => simp only [VR] at hx; obtain ⟨d, q', cap, _, rfl, _⟩ := hx; exact ⟨n, e, rfl, .inl ⟨_, _, rfl⟩⟩
  | nils => simp only [VR] at hx; subst hx; exact ⟨0, e, rfl, .inl ⟨_, _, rfl⟩⟩
  | str n s => simp only [VR] at hx; obtain ⟨rfl, _⟩ := hx; exact ⟨n, e, by simp [Builtin.lenOf, bstr_size], .inr ⟨_, rfl, bstr_size _ _⟩⟩
  | slx n => simp only [VR] at hx; obtain ⟨_, _, rfl, _⟩ := hx; exact ⟨n, e, rfl, .inl ⟨_, _, rfl⟩⟩
  | _ => exact absurd e.symm hr
theorem cell?_heap {w w' : World} (hh : w'.heap = w.heap) (a : Addr) : w'.cell? a = w.cell? a := by simp [World.cell?, hh]
theorem firstK_ok (hR : Rel N Γ h w) {es n : Nat} {x : AV} {u : Value} {k : Rw → Ev.R} {r : Ev.R} (hx : VR Γ x u) (hu : (∃ a m c, u = .slice a m c) ∨ (∃ s, u = .string s)) (e : firstK h es n x k = r) (hr : r ≠ .no) :
    ∃ rw us, k rw = r ∧ RwR Γ rw us ∧ us.length = n * es ∧ (∀ w', w'.heap = w.heap → (Builtin.firstCells es n u).run P w' = .ok us.toArray w') ∧
      (∀ b q m c e' ex d q', x = .slc b q m c e' ex → Γ.σ b = some (d, q') → ∀ j u, us[j]? = some u → w.cell? ⟨d, q' + q + j, none⟩ = some u) := by
  unfold firstK at e
  cases h0 : Nat.beq n 0 <;> rw [h0] at e
  · have hn : n ≠ 0 := fun e => by rw [e] at h0; cases h0
    cases x with
    | slc b q m c e' ex =>
      obtain ⟨hes, e2⟩ := beq_inv (show cond (Nat.beq e' es) (rowK (obAt b h) q (Nat.mul n es) .no k) Ev.R.no = r from e) hr
      simp only [VR] at hx; obtain ⟨d, q', cap, hs, rfl, _⟩ := hx
      obtain ⟨rw, us, e3, h1, h2, h3⟩ := rowK_ok hR hs e2 hr
      refine ⟨rw, us, e3, h2, h1, fun w' hw' => ?_, fun _ _ _ _ _ _ _ _ he hs' => ?_⟩
      · have := run_loadCells_list (P := P) w' ⟨d, q' + q, none⟩ us (fun j v hj => by rw [add_eq, cell?_heap hw']; exact h3 j v hj)
        rw [h1] at this
        exact this
      · cases he; rw [hs] at hs'; cases hs'; exact h3
    | str m s =>
      obtain ⟨hb, e2⟩ := cond_inv (show cond (Bool.and (Nat.ble n m) (Nat.beq es 1)) (forceN (lowB s n) fun y => k (.bs n y)) Ev.R.no = r from e) hr
      rw [Bool.and_eq_true] at hb
      have hle := ble_t hb.1
      have hes := Nat.eq_of_beq_eq_true hb.2
      subst hes
      rw [forceN_eq] at e2
      simp only [VR] at hx; obtain ⟨rfl, hs⟩ := hx
      refine ⟨_, (bl n (lowB s n)).map (fun b => .int .u8 b.toNat), e2, ⟨by simp [bl_length], lowB_lt _ _, fun i hi => ?_⟩, by simp [bl_length], fun w' _ => ?_, fun _ _ _ _ _ _ _ _ he => by cases he⟩
      · rw [List.getElem?_map, bl_get _ _ _ hi]
        have := byteAt_lt (lowB s n) i
        simp [Nat.mod_eq_of_lt this]
      · have : (bstr m s).extract 0 n = bstr n (lowB s n) := by
          rw [bstr_extract (Nat.zero_le _) hle]
          have : Nat.shiftRight s (Nat.mul 8 0) = s := rfl
          rw [this, Nat.sub_zero]
        simp only [Builtin.firstCells, this, Sem.run_pure]
        simp [bstr]
    | _ => exact absurd e.symm hr
  · have hn := Nat.eq_of_beq_eq_true h0
    subst hn
    refine ⟨_, [], e, ⟨rfl, by simp, fun i hi => by omega⟩, by simp, fun w' _ => ?_, fun _ _ _ _ _ _ _ _ _ _ j u hj => by simp at hj⟩
    rcases hu with ⟨a, m, c, rfl⟩ | ⟨s, rfl⟩
    · cases a <;> simp [Builtin.firstCells, loadCells, loadCellsFrom]
    · simp [Builtin.firstCells]
/-- rows joined make an object -/
theorem joinK_inv {bt : Bool} {ra rb : Rw} {us us' : List Value} {k : Ob → Ev.R} {r : Ev.R} (ha : RwR Γ ra us) (hb : RwR Γ rb us') (e : joinK bt ra rb k = r) (hr : r ≠ .no) :
    ∃ ob, k ob = r ∧ (bt = true → ∃ n x, ob = .bytes n x) ∧ (∀ Δ, Γ.Le Δ → ∀ (zs : List Value) el, OR Δ 0 (.cells (us ++ us' ++ zs).toArray el (0, 0)) ob) := by
  cases bt
  · obtain ⟨ob, e2, hob⟩ := mkCells_inv (show mkCells (appL ra.list rb.list) k = r from e) hr
    refine ⟨ob, e2, (fun hh => by cases hh), fun Δ hle zs el => ?_⟩
    have hv := appL_vals _ _ _ _ (Rw.list_vals (ha.mono hle)) (Rw.list_vals (hb.mono hle))
    have := hob Δ _ hv el
    cases ob with
    | cells n t =>
      obtain ⟨hf, arr, el', he, hsz, hc⟩ := this
      cases he
      refine ⟨hf, _, el, rfl, by simp at hsz ⊢; omega, fun i hi => ?_⟩
      obtain ⟨u, hu, hvr⟩ := hc i hi
      refine ⟨u, ?_, hvr⟩
      simp only [List.getElem?_toArray] at hu ⊢
      rw [List.getElem?_append_left (by
        have := (List.getElem?_eq_some_iff.1 hu).1; exact this)]; exact hu
    | bytes n x =>
      obtain ⟨hx, arr, el', fz, he, hfz, hsz, hc⟩ := this
      cases he
      refine ⟨hx, _, el, (0, 0), rfl, .inl rfl, by simp at hsz ⊢; omega, fun i hi => ?_⟩
      have hu := hc i hi
      simp only [List.getElem?_toArray] at hu ⊢
      rw [List.getElem?_append_left (by
        have := (List.getElem?_eq_some_iff.1 hu).1; exact this)]; exact hu
    | none => exact this.elim
    | map _ _ => obtain ⟨_, _, he, _⟩ := this; cases he
    | miter _ _ _ _ => obtain ⟨_, _, he, _⟩ := this; cases he
    | siter _ _ _ => obtain ⟨_, he, _⟩ := this; cases he
    | dfr => obtain ⟨_, he⟩ := this; cases he
    | loop _ _ _ _ _ => obtain ⟨_, _, _, he, _⟩ := this; cases he
    | dead => trivial
  · obtain ⟨n, x, e2, h1, h2, h3⟩ := Rw.packK_inv ha (show ra.packK Ev.R.no _ = r from e) hr
    obtain ⟨m, y, e3, h4, h5, h6⟩ := Rw.packK_inv hb e2 hr
    rw [forceN_eq, forceN_eq] at e3
    refine ⟨_, e3, fun _ => ⟨_, _, rfl⟩, fun Δ _ zs el => ?_⟩
    rw [join_eq]
    refine ⟨join_lt h2 h5, _, el, (0, 0), rfl, .inl rfl, by show 0 + (n + m) ≤ _; simp; omega, fun i hi => ?_⟩
    have hi : i < n + m := hi
    rw [Nat.zero_add, List.getElem?_toArray, List.getElem?_append_left (by simp; omega)]
    by_cases hin : i < n
    · rw [List.getElem?_append_left (by omega), byteAt_below _ _ _ _ hin]; exact h3 i hin
    · obtain ⟨j, rfl⟩ : ∃ j, i = n + j := ⟨i - n, by omega⟩
      rw [List.getElem?_append_right (by omega), h1, Nat.add_sub_cancel_left, byteAt_above _ _ _ _ h2]; exact h6 j (by omega)
end
end Go.Ev

/- append, copy, clear on slices. -/
namespace Go.Ev
open Go Go.RowKit

theorem byte_ext : ∀ (m x y : Nat), x < 256 ^ m → y < 256 ^ m → (∀ i, i < m → byteAt x i = byteAt y i) → x = y := by
  intro m
  induction m with
  | zero => intro x y hx hy _; rw [Nat.pow_zero] at hx hy; omega
  | succ m ih =>
    intro x y hx hy hb
    have h0 := hb 0 (by omega)
    rw [byteAt_zero, byteAt_zero] at h0
    have h1 := ih (x / 256) (y / 256) (by rw [Nat.pow_succ, Nat.mul_comm] at hx; exact Nat.div_lt_of_lt_mul hx) (by rw [Nat.pow_succ, Nat.mul_comm] at hy; exact Nat.div_lt_of_lt_mul hy) (fun i hi => by rw [← byteAt_succ, ← byteAt_succ]; exact hb (i + 1) (by omega))
    omega
theorem PutL_splice : ∀ (n m x o y : Nat), o + n ≤ m → x < 256 ^ m → y < 256 ^ n → PutL (bytesL n y) (.bytes m x) o (.bytes m (spliceN x o n y)) := by
  intro n
  induction n with
  | zero =>
    intro m x o y h hx hy
    have hy0 : y = 0 := by rw [Nat.pow_zero] at hy; omega
    subst hy0
    show Ob.bytes m (spliceN x o 0 0) = .bytes m x
    congr 1
    refine byte_ext m _ _ (splice_lt hx (by simp) h) hx fun i hi => ?_
    by_cases h1 : i < o
    · exact byteAt_splice_lo h1
    · exact byteAt_splice_hi (by simp) (by omega)
  | succ n ih =>
    intro m x o y h hx hy
    have hz : y % 256 ≤ 255 := by have := Nat.mod_lt y (show 0 < 256 by omega); omega
    have hy2 : y / 256 < 256 ^ n := by rw [Nat.pow_succ, Nat.mul_comm] at hy; exact Nat.div_lt_of_lt_mul hy
    have hx' := putByte_lt hx (show o < m by omega) hz
    show PutL (.cn (.int .u8 (.ofNat (y % 256))) (bytesL n (y / 256))) _ _ _
    refine ⟨rfl, _, .inr ⟨m, x, y % 256, rfl, by omega, rfl, hz, rfl⟩, ?_⟩
    have := ih m (putByte x o (y % 256)) (o + 1) (y / 256) (by omega) hx' hy2
    have he : spliceN (putByte x o (y % 256)) (o + 1) n (y / 256) = spliceN x o (n + 1) y := by
      refine byte_ext m _ _ (splice_lt hx' hy2 (by omega)) (splice_lt hx hy h) fun i hi => ?_
      by_cases h1 : i < o
      · rw [byteAt_splice_lo (by omega), byteAt_splice_lo h1, byteAt_putByte_ne hz (by omega)]
      · by_cases h2 : i = o
        · subst h2
          rw [byteAt_splice_lo (by omega), byteAt_putByte_same hz]
          have := byteAt_splice_mid (x := x) (o := i) (n := n + 1) (y := y) (i := 0) hy (by omega)
          rw [byteAt_zero] at this
          exact this.symm
        · by_cases h3 : i < o + (n + 1)
          · obtain ⟨k, rfl⟩ : ∃ k, i = o + (k + 1) := ⟨i - o - 1, by omega⟩
            rw [byteAt_splice_mid hy (by omega), byteAt_succ, show o + (k + 1) = o + 1 + k by omega, byteAt_splice_mid hy2 (by omega)]
          · rw [byteAt_splice_hi hy2 (by omega), byteAt_splice_hi hy (by omega), byteAt_putByte_ne hz (by omega)]
    rw [he] at this; exact this

section
variable {P : Program} {N : Nat → Prop} {nt : Nat} {Γ : Ctx} {h h' : Hp} {w : World} {v : AV} {f : F} {a : Act} {o : Oper}

theorem putRow_ok (hR : Rel N Γ h w) {b c q p : Nat} (hs : Γ.σ b = some (c, q)) {rw' : Rw} {us : List Value} (hrw : RwR Γ rw' us) {k : Ob → Ev.R} {r : Ev.R} (e : putRow (obAt b h) p rw' .no k = r) (hr : r ≠ .no) :
    ∃ l ob', PutL l (obAt b h) p ob' ∧ k ob' = r ∧ VRs Γ l us := by
  cases hob : obAt b h with
  | cells m t =>
    rw [hob] at e
    obtain ⟨ob', h1, h2⟩ := putLK_inv hr _ _ _ (show putLK rw'.list .no k (.cells m t) p = r from e)
    exact ⟨_, ob', h1, h2, Rw.list_vals hrw⟩
  | bytes m x =>
    rw [hob] at e
    cases rw' with
    | bs n y =>
      obtain ⟨hle, e2⟩ := ble_inv (show cond (Nat.ble (Nat.add p n) m) (forceN (spliceN x p n y) fun z => k (.bytes m z)) Ev.R.no = r from e) hr
      rw [forceN_eq] at e2
      obtain ⟨obj, _, hor⟩ := hR.live _ _ _ hs
      rw [hob] at hor
      exact ⟨_, _, PutL_splice n m x p y hle hor.1 hrw.2.1, e2, Rw.list_vals (r := .bs n y) hrw⟩
    | cs l =>
      obtain ⟨ob', h1, h2⟩ := putLK_inv hr _ _ _ (show putLK l .no k (.bytes m x) p = r from e)
      exact ⟨_, ob', h1, h2, hrw⟩
  | _ => rw [hob] at e; exact absurd e.symm hr

/-! append -/
theorem growBy_le (n : Nat) : ∀ (rounds c : Nat), c ≤ 2 * n + 768 → Builtin.growBy n rounds c ≤ 2 * n + 768
  | 0, c, h => h
  | r + 1, c, h => by
    unfold Builtin.growBy
    split
    · exact h
    · exact growBy_le n r _ (by omega)
theorem nextcap_le {n c : Nat} (h : c < n) : Builtin.nextslicecap n c ≤ 2 * n + 768 := by
  unfold Builtin.nextslicecap
  split
  · omega
  · split
    · omega
    · exact growBy_le n 4 c (by omega)
/-- what the slice's and the source's types are -/
structure AppT (P : Program) (ts : Array TypeId) (el : TypeId) : Prop where
  t0 : ∃ t, ts[0]? = some t ∧ P.underlying t = some (.slice el)
  t1 : ∃ t d, ts[1]? = some t ∧ P.underlying t = some d ∧ (∀ k, d ≠ .int k)
  info : P.info? el ≠ none
  by' : ∀ i, P.info? el = some i → i.bytes ≤ 65536
  z : ∃ z, (∀ w, (zeroValue el).run P w = .ok z w) ∧ z.cells.size = szOf P el
theorem run_append_in {ts : Array TypeId} {ty el : TypeId} (ht : AppT P ts el) {base : Option Addr} {sLen sCap n : Nat} {X : Value} {new : Array Value} (hlen : (Builtin.lenOf X).run P w = .ok n w)
    (hfirst : (Builtin.firstCells (szOf P el) n X).run P w = .ok new w) (hneed : sLen + n ≤ sCap) :
    (Builtin.append_ ts ty #[.slice base sLen sCap, X]).run P w = ((match base with | some a => storeCells (a.add (sLen * szOf P el)) new.toList | none => pure () : Sem Unit).run P w).andThen fun _ w' => .ok (.slice base (sLen + n) sCap) w' := by
  obtain ⟨t0, h0, hu0⟩ := ht.t0
  obtain ⟨t1, d1, h1, hu1, hd1⟩ := ht.t1
  cases base <;> simp [Builtin.append_, h0, h1, run_underlying' hu0, szOf_info ht.info, run_underlying' hu1, hlen, hneed, hfirst] <;> (cases d1 <;> first | (exact absurd rfl (hd1 _)) | (simp [hlen, hneed, hfirst]))
end
end Go.Ev

/- append whole. -/
namespace Go.Ev
open Go Go.RowKit

section
variable {P : Program} {N : Nat → Prop} {nt : Nat} {Γ : Ctx} {h h' : Hp} {w : World} {v : AV} {f : F} {a : Act} {o : Oper}

theorem zeroCells_length (z : Array Value) (n : Nat) : (Builtin.zeroCells z n).size = n * z.size := by simp [Builtin.zeroCells]
set_option maxHeartbeats 4000000 in
theorem run_append_grow {ts : Array TypeId} {ty el : TypeId} (ht : AppT P ts el) {base : Option Addr} {sLen sCap n : Nat} {X : Value} {old new : Array Value} (hlen : (Builtin.lenOf X).run P w = .ok n w)
    (hold : (Builtin.firstCells (szOf P el) sLen (.slice base sLen sCap)).run P w.drew = .ok old w.drew) (hnew : (Builtin.firstCells (szOf P el) n X).run P w.drew = .ok new w.drew)
    (hneed : ¬ sLen + n ≤ sCap) (hsmall : sLen + n ≤ 16777216) :
    ∃ (cap : Nat) (rest : List Value), sLen + n ≤ cap ∧ rest.length = (cap - (sLen + n)) * szOf P el ∧
      (Builtin.append_ ts ty #[.slice base sLen sCap, X]).run P w = .ok (.slice (some ⟨w.heap.size, 0, none⟩) (sLen + n) cap) { w.drew with heap := w.heap.push (.cells (old ++ new ++ rest.toArray) el (0, 0)) } := by
  obtain ⟨t0, h0, hu0⟩ := ht.t0
  obtain ⟨t1, d1, h1, hu1, hd1⟩ := ht.t1
  obtain ⟨z, hz, hzs⟩ := ht.z
  obtain ⟨i, hi⟩ := Option.ne_none_iff_exists'.1 ht.info
  have hb := ht.by' i hi
  refine ⟨(Question.appendCap (sLen + n) sCap el).cut (w.tape w.drawn (.appendCap (sLen + n) sCap el)), (Builtin.zeroCells z.cells ((Question.appendCap (sLen + n) sCap el).cut (w.tape w.drawn (.appendCap (sLen + n) sCap el)) - (sLen + n))).toList, by simp [Question.cut], by simp [zeroCells_length, hzs], ?_⟩
  have hcap : ¬ Builtin.nextslicecap (sLen + n) sCap * i.bytes > 2 ^ 48 := by
    have h2 := nextcap_le (n := sLen + n) (c := sCap) (by omega)
    have h3 : Builtin.nextslicecap (sLen + n) sCap * i.bytes ≤ (2 * 16777216 + 768) * 65536 := Nat.mul_le_mul (by omega) hb
    omega
  have hmax : ¬ (((sLen + n : Nat) : Int) > IntKind.i64.max ∧ (False ∨ i.bytes = 0)) := by
    rintro ⟨h3, _⟩
    simp [IntKind.max, IntKind.bits, IntKind.signed] at h3; omega
  have hdrew : ({ w with drawn := w.drawn + 1 } : World) = w.drew := rfl
  have hzd : (zeroValue el).run P w.drew = .ok z w.drew := hz _
  have hmax1 : ¬ ((IntKind.i64.max < (sLen : Int) + (n : Int)) ∧ i.bytes = 0) := by
    rintro ⟨h3, _⟩
    simp [IntKind.max, IntKind.bits, IntKind.signed] at h3; omega
  have hmax2 : ¬ ((9223372036854775807 < (sLen : Int) + (n : Int)) ∧ i.bytes = 0) := by omega
  have hcap1 : ¬ (281474976710656 < Builtin.nextslicecap (sLen + n) sCap * i.bytes) := by simpa using hcap
  have key : ∀ (S : Value), S = .slice base sLen sCap → (Builtin.firstCells (szOf P el) sLen S).run P w.drew = .ok old w.drew := fun S hS => by rw [hS]; exact hold
  cases d1 <;> first
    | (exact absurd rfl (hd1 _))
    | (simp [Builtin.append_, h0, h1, run_underlying' hu0, szOf_info ht.info, run_underlying' hu1, hlen, hneed, run_typeInfo hi, hmax1, hmax2, hcap1, Question.forced, hdrew, hold, hnew, hzd, newRow]; rfl)
end
end Go.Ev

/- append whole: the abstract block is new, whether the concrete one is or not. -/
namespace Go.Ev
open Go Go.RowKit

section
variable {P : Program} {N : Nat → Prop} {nt : Nat} {Γ : Ctx} {h h' : Hp} {w : World} {v : AV} {f : F} {a : Act} {o : Oper}

/-- cells stored into a row, whatever is known of it -/
theorem storeCells_raw {d A : Nat} {el : TypeId} {fz : Nat × Nat} (hN : ¬ N d) : ∀ (us : List Value) (i : Nat) (arr : Array Value) (w : World), w.heap[d]? = some (.cells arr el fz) → (fz = (0, 0) ∨ fz = (arr.size, arr.size + 1)) →
    A + i + us.length ≤ arr.size → (∀ u ∈ us, u.oneCell' = true) →
    ∃ w' arr', (storeCells ⟨d, A, none⟩ us i).run P w = .ok () w' ∧ w'.heap[d]? = some (.cells arr' el fz) ∧ arr'.size = arr.size ∧ (∀ j, arr'[j]? = if A + i ≤ j ∧ j < A + i + us.length then us[j - (A + i)]? else arr[j]?) ∧
      (∀ c, c ≠ d → w'.heap[c]? = w.heap[c]?) ∧ w'.heap.size = w.heap.size ∧ Below N w w' := by
  intro us
  induction us with
  | nil => intro i arr w hd hfz hle _; exact ⟨w, arr, by simp [storeCells], hd, rfl, fun j => by rw [if_neg (by rintro ⟨h1, h2⟩; simp at h2; omega)], fun _ _ => rfl, rfl, .refl N w⟩
  | cons u us ih =>
    intro i arr w hd hfz hle hone
    simp only [List.length_cons] at hle
    obtain ⟨w', arr', h1, h2, h3, h4, h5, h6, h7⟩ := ih (i + 1) (arr.setIfInBounds (A + i) u) (w.setCell ⟨d, A + i, none⟩ u) (heap_setCell_same hd u) (by simpa using hfz) (by simp; omega) (fun x hx => hone x (List.mem_cons_of_mem _ hx))
    have hcell : w.cell? ⟨d, A + i, none⟩ = some arr[A + i] := by rw [cell?_of w hd]; simp
    have hfr : w.frozen? ⟨d, A + i, none⟩ = false := by
      rw [frozen?_of w hd]
      rcases hfz with rfl | rfl
      · simp
      · simp; omega
    refine ⟨w', arr', ?_, h2, by rw [h3]; simp, fun j => ?_, fun c hc => by rw [h5 c hc, heap_setCell_ne _ hc], by rw [h6, heap_setCell_size], ((Below.refl N w).setCell (p := ⟨d, A + i, none⟩) hN u).trans h7⟩
    · rw [storeCells, Sem.run_bind, add_eq, run_store P w _ u _ (hone u (List.mem_cons_self ..)), hcell]
      simp only [hfr, Bool.false_eq_true, if_false, Result.andThen_ok]
      exact h1
    · rw [h4 j]
      simp only [List.length_cons]
      by_cases hj : j = A + i
      · subst hj
        rw [if_neg (by omega), if_pos (by omega), Nat.sub_self, List.getElem?_cons_zero, Array.getElem?_setIfInBounds_self_of_lt (by omega)]
      · by_cases hj2 : A + (i + 1) ≤ j ∧ j < A + (i + 1) + us.length
        · rw [if_pos hj2, if_pos (by omega)]
          obtain ⟨m, hm⟩ : ∃ m, j - (A + i) = m + 1 := ⟨j - (A + i) - 1, by omega⟩
          rw [hm, List.getElem?_cons_succ]; congr 1; omega
        · rw [if_neg hj2, if_neg (by omega), Array.getElem?_setIfInBounds_ne (by omega)]
/-- an object that stands for a list stands for it wherever it lies -/
theorem OR_shift {Δ : Ctx} {L : List Value} {ob : Ob} {el el' : TypeId} {Q : Nat} {arr : Array Value} {fz : Nat × Nat} (hor : OR Δ 0 (.cells L.toArray el (0, 0)) ob) (hget : ∀ i, i < L.length → arr[Q + i]? = L[i]?) (hsz : Q + L.length ≤ arr.size)
    (hfz : fz = (0, 0) ∨ (fz = (arr.size, arr.size + 1) ∧ ∃ n x, ob = .bytes n x)) : OR Δ Q (.cells arr el' fz) ob := by
  cases ob with
  | cells n t =>
    obtain ⟨hf, arr', e', he, hs, hc⟩ := hor
    cases he
    have hfz : fz = (0, 0) := by rcases hfz with h | ⟨_, n', x, h⟩; exact h; cases h
    subst hfz
    simp at hs
    refine ⟨hf, arr, el', rfl, by omega, fun i hi => ?_⟩
    obtain ⟨u, hu, hv⟩ := hc i hi
    rw [Nat.zero_add, List.getElem?_toArray] at hu
    exact ⟨u, by rw [hget i (by omega)]; exact hu, hv⟩
  | bytes n x =>
    obtain ⟨hx, arr', e', f', he, _, hs, hc⟩ := hor
    cases he
    simp at hs
    refine ⟨hx, arr, el', fz, rfl, hfz.imp id (·.1), by omega, fun i hi => ?_⟩
    have hu := hc i hi
    rw [Nat.zero_add, List.getElem?_toArray] at hu
    rw [hget i (by omega)]; exact hu
  | none => exact hor.elim
  | map _ _ => obtain ⟨_, _, he, _⟩ := hor; cases he
  | miter _ _ _ _ => obtain ⟨_, _, he, _⟩ := hor; cases he
  | siter _ _ _ => obtain ⟨_, he, _⟩ := hor; cases he
  | dfr => obtain ⟨_, he⟩ := hor; cases he
  | loop _ _ _ _ _ => obtain ⟨_, _, _, he, _⟩ := hor; cases he
  | dead => trivial
/-- a block is given up -/
theorem Rel.kill (hR : Rel N Γ h w) {b : Nat} (hb : b < h.n) : Rel N Γ (setOb b .dead h) w := by
  have hb' : b < 83521 := Nat.lt_of_lt_of_le hb hR.hn
  have hne : ∀ b', b' ≠ b → b' < h.n → obAt b' (setOb b .dead h) = obAt b' h := fun b' hb1 hlt => by
    unfold setOb; rw [obAt_setT_ne _ _ _ hb' (Nat.lt_of_lt_of_le hlt hR.hn) (Ne.symm hb1)]
  refine ⟨fun b' c q hs => ?_, hR.szs, hR.bnd, fun b1 b2 c q1 q2 h1 h2 d1 d2 => ?_, hR.own, hR.lim, hR.hn, hR.gn, hR.glob, hR.base, hR.nb, fun b' c q t hs ht => ?_⟩
  · obtain ⟨obj, h1, h2⟩ := hR.live b' c q hs
    by_cases e : b' = b
    · subst e; exact ⟨obj, h1, by rw [obAt_setOb]; trivial⟩
    · exact ⟨obj, h1, by rw [hne b' e (hR.bnd _ _ _ hs)]; exact h2⟩
  · have l1 : b1 ≠ b := fun e => by rw [e, obAt_setOb] at d1; exact d1 rfl
    have l2 : b2 ≠ b := fun e => by rw [e, obAt_setOb] at d2; exact d2 rfl
    rw [hne b1 l1 (hR.bnd _ _ _ h1)] at d1
    rw [hne b2 l2 (hR.bnd _ _ _ h2)] at d2
    exact hR.sep b1 b2 c q1 q2 h1 h2 d1 d2
  · by_cases e : b' = b
    · rw [e, obAt_setOb] at ht; cases ht
    · rw [hne b' e (hR.bnd _ _ _ hs)] at ht; exact hR.one b' c q t hs ht
/-- the context with a second name for a block -/
def Ctx.also (Γ : Ctx) (b c q : Nat) (h : c < Γ.lim) : Ctx where
  σ := fun x => if x = b then some (c, q) else Γ.σ x
  sz := Γ.sz
  lim := Γ.lim
  nb := b + 1
  wf := fun x d r hx => by
    split at hx
    · cases hx; exact h
    · exact Γ.wf x d r hx
theorem Ctx.le_also (Γ : Ctx) {b c q : Nat} (h : c < Γ.lim) (hb : Γ.σ b = none) (hnb : Γ.nb ≤ b) : Γ.Le (Γ.also b c q h) := by
  refine ⟨fun x y hx => ?_, Nat.le_refl _, fun d hd => rfl, by show Γ.nb ≤ b + 1; omega, fun x hx h0 => (by show (if x = b then _ else _) = _; rw [if_neg (by omega)]; exact h0)⟩
  show (if x = b then _ else _) = _
  rw [if_neg (fun e => by rw [e, hb] at hx; cases hx)]; exact hx
end
end Go.Ev

/- append whole. -/
namespace Go.Ev
open Go Go.RowKit

section
variable {P : Program} {N : Nat → Prop} {nt : Nat} {Γ : Ctx} {h h' : Hp} {w : World} {v : AV} {f : F} {a : Act} {o : Oper}

/-- what a value-giving piece of the model gives -/
def GivesV (P : Program) (N : Nat → Prop) (Γ : Ctx) (w : World) (s : Sem Value) (v : AV) (h' : Hp) : Prop :=
  ∃ Δ val w', s.run P w = .ok val w' ∧ Γ.Le Δ ∧ VR Δ v val ∧ Rel N Δ h' w' ∧ Below N w w'

theorem allSc_one : ∀ (l : AV) (us : List Value), allSc l = true → VRs Γ l us → ∀ u ∈ us, u.oneCell' = true := by
  intro l
  induction l with
  | nl => intro us _ hv; simp only [VRs] at hv; subst hv; simp
  | cn x l ihx ihl =>
    intro us hs hv
    simp only [VRs] at hv
    obtain ⟨u, r, rfl, hu, hr⟩ := hv
    obtain ⟨h1, h2⟩ := cond_inv (show cond (scB x) (allSc l) false = true from hs) (by simp)
    intro y hy
    rcases List.mem_cons.1 hy with rfl | hy
    · exact oneCell_of h1 hu
    · exact ihl r h2 hr y hy
  | _ => intro us hs hv; simp [VRs] at hv
theorem Rw.sc_one {r : Rw} {us : List Value} (hs : r.sc = true) (hr : RwR Γ r us) : ∀ u ∈ us, u.oneCell' = true := by
  cases r with
  | cs l => exact allSc_one l us hs hr
  | bs n x =>
    intro u hu
    obtain ⟨i, hi, he⟩ := List.getElem_of_mem hu
    have := hr.2.2 i (by rw [← hr.1]; exact hi)
    rw [List.getElem?_eq_getElem hi, he] at this
    cases this; rfl

theorem cond_no {b : Bool} {x : Ev.R} (e : cond b .no x = .ok v h') : b = false ∧ x = .ok v h' := by
  cases b
  · exact ⟨rfl, e⟩
  · exact (no_ok (e := e)).elim
/-- a slice that grows into a block of its own -/
theorem grow_ok (hR : Rel N Γ h w) {ts : Array TypeId} {ty el : TypeId} (ht : AppT P ts el) {bt : Bool} {h1 : Hp} {base : Option Addr} {sLen sCap n : Nat} {X : Value} {rs rx : Rw} {old new : List Value}
    (hR1 : Rel N Γ h1 w) (hn1 : h1.n = h.n) (hlen : (Builtin.lenOf X).run P w = .ok n w)
    (hold : (Builtin.firstCells (szOf P el) sLen (.slice base sLen sCap)).run P w.drew = .ok old.toArray w.drew) (hnew : (Builtin.firstCells (szOf P el) n X).run P w.drew = .ok new.toArray w.drew)
    (hl1 : old.length = sLen * szOf P el) (hl2 : new.length = n * szOf P el) (hrs : RwR Γ rs old) (hrx : RwR Γ rx new) (hneed : ¬ sLen + n ≤ sCap) {K : Ob → Ev.R} (hK : ∀ ob, K ob = .ok v h' → newR ob h1 (fun i h => forceN (sLen + n) fun n => .ok (.slc i 0 n n (szOf P el) false) h) = .ok v h') (e : cond (Nat.ble (sLen + n) 16777216) (joinK bt rs rx K) Ev.R.no = .ok v h') :
    GivesV P N Γ w (Builtin.append_ ts ty #[.slice base sLen sCap, X]) v h' := by
  obtain ⟨hsm, e1⟩ := ble_inv e ok_ne_no
  obtain ⟨ob, e2, _, hob⟩ := joinK_inv hrs hrx e1 ok_ne_no
  have e2 := hK ob e2
  obtain ⟨hn, e3⟩ := newR_inv e2 ok_ne_no
  rw [forceN_eq] at e3
  obtain ⟨rfl, rfl⟩ := ok_inj e3
  obtain ⟨cap, rest, hc1, hc2, hrun⟩ := run_append_grow (ty := ty) ht hlen hold hnew hneed hsm
  have hR' := hR1.drew
  have hle := Γ.le_more (b := h1.n) (c := w.heap.size) (q := 0) (s := (old ++ new ++ rest).length) (Nat.le_of_eq hR'.lim) (hR'.none_at (Nat.le_refl _)) (Nat.le_of_eq hR'.nb)
  have hRel := hR'.new (ob := ob) (obj := .cells (old ++ new ++ rest).toArray el (0, 0)) (s := (old ++ new ++ rest).length) hn (fun arr el fz h => by cases h; simp) (hob _ hle rest el)
  refine ⟨_, _, _, hrun, hle, ?_, ?_, (Below.refl N w).drew.trans (below_push w.drew _ hR.base)⟩
  · simp only [VR]
    refine ⟨w.heap.size, 0, cap, by simp [Ctx.more], by simp, hc1, (fun hh => by cases hh), fun _ => ⟨hc1, ?_⟩⟩
    simp only [Ctx.more, if_true, Nat.zero_add, List.length_append, hl1, hl2, hc2]
    have h5 : (sLen + n) * szOf P el + (cap - (sLen + n)) * szOf P el = cap * szOf P el := by rw [← Nat.add_mul]; congr 1; omega
    have h6 : (sLen + n) * szOf P el = sLen * szOf P el + n * szOf P el := Nat.add_mul _ _ _
    omega
  · have : (old.toArray ++ new.toArray ++ rest.toArray) = (old ++ new ++ rest).toArray := by simp
    rw [this]; exact hRel

/-- a slice that grows where it lies, under a new name -/
theorem ingrow_ok (hR : Rel N Γ h w) {ts : Array TypeId} {ty el : TypeId} (ht : AppT P ts el) {bt : Bool} {b q len n : Nat} {X : Value} {rs rx : Rw} {old new : List Value} {d q' cap : Nat}
    (hs : Γ.σ b = some (d, q')) (hb : gN ≤ b) (hkind : (bt = true ∧ isBy (obAt b h) = true) ∨ isCells (obAt b h) = true) (hcapsz : q' + q + cap * szOf P el ≤ Γ.sz d)
    (hlen : (Builtin.lenOf X).run P w = .ok n w) (hnew : (Builtin.firstCells (szOf P el) n X).run P w = .ok new.toArray w) (hl1 : old.length = len * szOf P el) (hl2 : new.length = n * szOf P el)
    (hocells : ∀ j u, old[j]? = some u → w.cell? ⟨d, q' + q + j, none⟩ = some u) (hrs : RwR Γ rs old) (hrx : RwR Γ rx new) (hone : ∀ u ∈ new, u.oneCell' = true) (hneed : len + n ≤ cap)
    (e : newSlN bt (szOf P el) (len + n) rs rx (setOb b .dead h) = .ok v h') :
    GivesV P N Γ w (Builtin.append_ ts ty #[.slice (some ⟨d, q' + q, none⟩) len cap, X]) v h' := by
  obtain ⟨hsm, e1⟩ := ble_inv (show cond (Nat.ble (len + n) 16777216) _ Ev.R.no = _ from e) ok_ne_no
  obtain ⟨ob, e2, hby, hob⟩ := joinK_inv hrs hrx e1 ok_ne_no
  have hc1 : isC1 ob = false := by
    cases hh : isC1 ob
    · rfl
    · rw [hh] at e2; exact (no_ok (e := e2)).elim
  rw [hc1, cond_false] at e2
  obtain ⟨hn, e3⟩ := newR_inv e2 ok_ne_no
  rw [forceN_eq] at e3
  obtain ⟨rfl, rfl⟩ := ok_inj e3
  have hn : h.n < 83521 := hn
  -- the block, as it is
  obtain ⟨obj, hobj, hor⟩ := hR.live b d q' hs
  obtain ⟨arr, el0, fz, rfl, hfz⟩ : ∃ arr el0 fz, obj = .cells arr el0 fz ∧ (fz = (0, 0) ∨ (fz = (arr.size, arr.size + 1) ∧ bt = true)) := by
    rcases hkind with ⟨hbt, hk⟩ | hk
    · cases hk2 : obAt b h with
      | bytes m x =>
        rw [hk2] at hor; obtain ⟨_, arr, el0, fz, rfl, hfz, _⟩ := hor
        exact ⟨arr, el0, fz, rfl, hfz.imp id (fun h => ⟨h, hbt⟩)⟩
      | _ => rw [hk2] at hk; cases hk
    · obtain ⟨m, t, hk2⟩ := isCells_inv hk
      rw [hk2] at hor; obtain ⟨_, arr, el0, rfl, _⟩ := hor; exact ⟨arr, el0, _, rfl, .inl rfl⟩
  have hlive : obAt b h ≠ .dead := by
    intro hd; rw [hd] at hkind; rcases hkind with ⟨_, hk⟩ | hk <;> cases hk
  have hd : d < Γ.lim := Γ.wf _ _ _ hs
  have hasz := hR.szs d arr el0 fz hd hobj
  have hmul : (len + n) * szOf P el = len * szOf P el + n * szOf P el := Nat.add_mul _ _ _
  have hmul2 : (len + n) * szOf P el ≤ cap * szOf P el := Nat.mul_le_mul_right _ hneed
  obtain ⟨w', arr', hst, hd', hsz', hget', hoth, hws, hbel⟩ := storeCells_raw (P := P) (N := N) (A := q' + q + len * szOf P el) (hR.own b d q' hs hb) new 0 arr w hobj (hfz.imp id (·.1)) (by omega) hone
  have hrun : (Builtin.append_ ts ty #[.slice (some ⟨d, q' + q, none⟩) len cap, X]).run P w = .ok (.slice (some ⟨d, q' + q, none⟩) (len + n) cap) w' := by
    rw [run_append_in ht hlen hnew hneed]
    simp only [add_eq]
    rw [hst]; rfl
  have hnone := hR.none_at (Nat.le_refl h.n)
  have hle := Γ.le_also (b := h.n) (c := d) (q := q' + q) hd hnone (Nat.le_of_eq hR.nb)
  have hbn : b < h.n := hR.bnd _ _ _ hs
  have hne : ∀ b', b' ≠ b → b' < h.n → obAt b' ⟨setT h.n ob (setOb b .dead h).t, h.n + 1⟩ = obAt b' h := fun b' hb1 hlt => by
    rw [obAt_setT_ne _ _ _ hn (by omega) (by omega)]
    show obAt b' (setOb b .dead h) = _
    unfold setOb; rw [obAt_setT_ne _ _ _ (by omega) (by omega) (Ne.symm hb1)]
  have hat_b : obAt b ⟨setT h.n ob (setOb b .dead h).t, h.n + 1⟩ = .dead := by
    rw [obAt_setT_ne _ _ _ hn (by omega) (by omega)]
    show obAt b (setOb b .dead h) = _
    rw [obAt_setOb]
  have hcases : ∀ b' c' q1, (Γ.also h.n d (q' + q) hd).σ b' = some (c', q1) → (b' = h.n ∧ c' = d ∧ q1 = q' + q) ∨ (b' ≠ h.n ∧ Γ.σ b' = some (c', q1)) := by
    intro b' c' q1 hs'
    change (if b' = h.n then _ else _) = _ at hs'
    split at hs'
    · rename_i e; cases hs'; exact .inl ⟨e, rfl, rfl⟩
    · rename_i e; exact .inr ⟨e, hs'⟩
  refine ⟨Γ.also h.n d (q' + q) hd, _, w', hrun, hle, ?_, ?_, hbel⟩
  · simp only [VR]
    exact ⟨d, q' + q, cap, (show (if h.n = h.n then some (d, q' + q) else _) = _ from if_pos rfl), by simp, hneed, (fun hh => by cases hh), fun _ => ⟨hneed, hcapsz⟩⟩
  · show Rel N _ ⟨setT h.n ob (setOb b .dead h).t, h.n + 1⟩ w'
    refine ⟨fun b' c' q1 hs' => ?_, fun c' a' el' fz' hc' hcell => ?_, fun b' c' q1 hs' => ?_, fun b1 b2 c' q1 q2 h1 h2 d1 d2 => ?_, fun b' c' q1 hs' hG => ?_, by show Γ.lim = _; rw [hws, hR.lim], by show h.n + 1 ≤ _; omega, by have := hR.gn; show gN ≤ h.n + 1; omega, fun g hg => hle.σ _ _ (hR.glob g hg), by rw [hws]; exact hR.base, rfl, fun b' c' q1 t hs' ht => ?_⟩
    · rcases hcases _ _ _ hs' with ⟨rfl, rfl, rfl⟩ | ⟨e, hs3⟩
      · refine ⟨_, hd', ?_⟩
        rw [obAt_setT_same]
        refine OR_shift (L := old ++ new) (el := 0) (by have := hob _ hle [] 0; rwa [List.append_nil] at this) (fun i hi => ?_) (by rw [hsz', List.length_append]; omega) ?_
        · rw [List.length_append] at hi
          rw [hget']
          by_cases hi2 : i < old.length
          · rw [if_neg (by omega), List.getElem?_append_left hi2]
            have := hocells i old[i] (List.getElem?_eq_getElem hi2)
            rw [cell?_of w hobj] at this
            rw [List.getElem?_eq_getElem hi2]; exact this
          · rw [if_pos (by omega), List.getElem?_append_right (by omega)]
            congr 1; omega
        · rcases hfz with h | ⟨h, hbt⟩
          · exact .inl h
          · exact .inr ⟨by rw [h, hsz'], hby hbt⟩
      · by_cases hbb : b' = b
        · subst hbb
          rw [hs] at hs3; cases hs3
          exact ⟨_, hd', by rw [hat_b]; trivial⟩
        · obtain ⟨obj', ho', hr'⟩ := hR.live b' c' q1 hs3
          have hlt := hR.bnd _ _ _ hs3
          rw [hne b' hbb hlt]
          by_cases hcd : c' = d
          · subst hcd
            by_cases hdead : obAt b' h = .dead
            · exact ⟨_, hd', by rw [hdead]; trivial⟩
            · exact absurd (hR.sep _ _ _ _ _ hs3 hs hdead hlive) hbb
          · exact ⟨obj', by rw [hoth c' hcd]; exact ho', hr'.mono hle⟩
    · show a'.size = Γ.sz c'
      by_cases hcd : c' = d
      · subst hcd; rw [hd'] at hcell; cases hcell; rw [hsz']; exact hasz
      · rw [hoth c' hcd] at hcell; exact hR.szs c' a' el' fz' hc' hcell
    · show b' < h.n + 1
      rcases hcases _ _ _ hs' with ⟨rfl, _, _⟩ | ⟨e, hs'⟩
      · omega
      · have := hR.bnd b' c' q1 hs'; omega
    · rcases hcases _ _ _ h1 with ⟨e1, ec, _⟩ | ⟨e1, s1⟩ <;> rcases hcases _ _ _ h2 with ⟨e2, ec2, _⟩ | ⟨e2, s2⟩
      · rw [e1, e2]
      · exfalso
        subst ec
        have hb2 : b2 ≠ b := fun e => by rw [e, hat_b] at d2; exact d2 rfl
        rw [hne b2 hb2 (hR.bnd _ _ _ s2)] at d2
        exact hb2 (hR.sep _ _ _ _ _ s2 hs d2 hlive)
      · exfalso
        subst ec2
        have hb2 : b1 ≠ b := fun e => by rw [e, hat_b] at d1; exact d1 rfl
        rw [hne b1 hb2 (hR.bnd _ _ _ s1)] at d1
        exact hb2 (hR.sep _ _ _ _ _ s1 hs d1 hlive)
      · have l1 : b1 ≠ b := fun e => by rw [e, hat_b] at d1; exact d1 rfl
        have l2 : b2 ≠ b := fun e => by rw [e, hat_b] at d2; exact d2 rfl
        rw [hne b1 l1 (hR.bnd _ _ _ s1)] at d1
        rw [hne b2 l2 (hR.bnd _ _ _ s2)] at d2
        exact hR.sep b1 b2 c' q1 q2 s1 s2 d1 d2
    · rcases hcases _ _ _ hs' with ⟨rfl, rfl, rfl⟩ | ⟨e, hs'⟩
      · exact hR.own b c' q' hs hb
      · exact hR.own b' c' q1 hs' hG
    · rcases hcases _ _ _ hs' with ⟨rfl, rfl, rfl⟩ | ⟨e, hs'⟩
      · rw [obAt_setT_same] at ht
        rw [ht] at hc1; cases hc1
      · have hbb : b' ≠ b := fun hh => by rw [hh, hat_b] at ht; cases ht
        rw [hne b' hbb (hR.bnd _ _ _ hs')] at ht
        exact hR.one b' c' q1 t hs' ht

theorem appendR_ok (hR : Rel N Γ h w) {ts : Array TypeId} {ty el : TypeId} (ht : AppT P ts el) {bt : Bool} {s x : AV} {S X : Value} (hsv : VR Γ s S) (hx : VR Γ x X) (e : appendR bt (szOf P el) s x h = .ok v h') :
    GivesV P N Γ w (Builtin.append_ ts ty #[S, X]) v h' := by
  obtain ⟨n, e1, hlen, hk⟩ := lenK_ok (P := P) (w := w) (show lenK x Ev.R.no _ = _ from e) ok_ne_no hx
  obtain ⟨rx, new, e2, hrx, hl2, hnew, _⟩ := firstK_ok (P := P) hR hx (hk.imp (fun ⟨a, c, h⟩ => ⟨a, _, c, h⟩) (fun ⟨s, h, _⟩ => ⟨s, h⟩)) e1 ok_ne_no
  cases h0 : Nat.beq n 0 <;> rw [h0] at e2
  · have hn0 : n ≠ 0 := fun e => by rw [e] at h0; cases h0
    cases s with
    | nils =>
      simp only [VR] at hsv; subst hsv
      refine grow_ok (base := none) (sLen := 0) (sCap := 0) (old := []) (rs := .bs 0 0) hR ht hR rfl hlen ?_ (hnew _ rfl) (by simp) hl2 ⟨rfl, by simp, fun i hi => by omega⟩ hrx (by omega) (bt := bt) (K := fun ob => newR ob h fun i h => forceN n fun n => .ok (.slc i 0 n n (szOf P el) false) h) (fun ob h => by rw [Nat.zero_add]; exact h) (by rw [Nat.zero_add]; exact e2)
      simp [Builtin.firstCells, loadCells, loadCellsFrom]
    | slc b q len c e' ex =>
      have hsv0 := hsv
      simp only [VR] at hsv; obtain ⟨d, q', cap, hs, rfl, hle, hx1, hx2⟩ := hsv
      obtain ⟨hes, e3⟩ := beq_inv (show cond (Nat.beq e' (szOf P el)) _ Ev.R.no = _ from e2) ok_ne_no
      subst hes
      cases hin : Nat.ble (Nat.add len n) c <;> rw [hin] at e3
      · have hin' : ¬ len + n ≤ c := fun hh => by rw [show Nat.ble (Nat.add len n) c = true from Nat.ble_eq_true_of_le hh] at hin; cases hin
        obtain ⟨rs, old, e4, hrs, hl1, hold, hoc⟩ := firstK_ok (P := P) hR hsv0 (.inl ⟨_, _, _, rfl⟩) (by rw [cond_false] at e3; exact e3) ok_ne_no
        have hoc2 := hoc _ _ _ _ _ _ _ _ rfl hs
        cases ex
        · obtain ⟨hc1, hc2⟩ := hx2 rfl
          obtain ⟨hb1, e5⟩ := cond_inv (show cond _ _ Ev.R.no = _ from e4) ok_ne_no
          obtain ⟨hb, e6⟩ := wr_inv e5 ok_ne_no
          rw [Bool.and_eq_true] at hb1
          by_cases hcap : len + n ≤ cap
          · refine ingrow_ok hR ht hs hb ?_ hc2 hlen (hnew _ rfl) hl1 hl2 hoc2 hrs hrx (Rw.sc_one hb1.1 hrx) hcap e6
            have := hb1.2
            simpa [Bool.or_eq_true, Bool.and_eq_true] using this
          · exact grow_ok hR ht (hR.kill (hR.bnd _ _ _ hs)) rfl hlen (hold _ rfl) (hnew _ rfl) hl1 hl2 hrs hrx hcap (K := fun ob => cond (isC1 ob) .no (newR ob (setOb b .dead h) fun i h => forceN (len + n) fun n => .ok (.slc i 0 n n (szOf P el) false) h)) (fun ob hh => (cond_no hh).2) e6
        · have hc := hx1 rfl
          subst hc
          exact grow_ok hR ht hR rfl hlen (hold _ rfl) (hnew _ rfl) hl1 hl2 hrs hrx hin' (K := fun ob => newR ob h fun i h => forceN (len + n) fun n => .ok (.slc i 0 n n (szOf P el) false) h) (fun ob hh => hh) e4
      · have hin' : len + n ≤ c := Nat.le_of_ble_eq_true hin
        obtain ⟨hb, e4⟩ := wr_inv e3 ok_ne_no
        obtain ⟨l, ob', hp, e5, hl⟩ := putRow_ok hR hs hrx e4 ok_ne_no
        rw [forceN_eq] at e5
        obtain ⟨rfl, rfl⟩ := ok_inj e5
        have hcap : len + n ≤ cap := by
          cases ex
          · exact Nat.le_trans hin' (hx2 rfl).1
          · rw [hx1 rfl]; exact hin'
        obtain ⟨w', hst, hR', hbel⟩ := storeCells_ok (P := P) hs hb l new h w (q + len * szOf P el) (q' + q + len * szOf P el) 0 ob' hR hp hl (by omega)
        refine ⟨Γ, .slice (some ⟨d, q' + q, none⟩) (len + n) cap, w', ?_, .refl Γ, ?_, hR', hbel⟩
        · rw [run_append_in ht hlen (hnew _ rfl) hcap]
          simp only [add_eq]
          rw [hst]; rfl
        · simp only [VR]
          exact ⟨d, q', cap, hs, rfl, hcap, hx1, hx2⟩
    | _ => exact (no_ok (e := e2)).elim
  · have hn0 := Nat.eq_of_beq_eq_true h0
    subst hn0
    have hnil : new = [] := by cases new with | nil => rfl | cons a r => simp at hl2
    subst hnil
    have key : ∀ base sLen sCap, S = .slice base sLen sCap → sLen ≤ sCap → v = s → h' = h → GivesV P N Γ w (Builtin.append_ ts ty #[S, X]) v h' := by
      intro base sLen sCap hS hle hv hh
      subst hS hv hh
      refine ⟨Γ, _, w, ?_, .refl Γ, hsv, hR, .refl N w⟩
      rw [run_append_in ht hlen (hnew _ rfl) (by omega)]
      cases base <;> simp [storeCells]
    cases s with
    | nils => simp only [VR] at hsv; obtain ⟨rfl, rfl⟩ := ok_inj e2; exact key _ _ _ hsv (Nat.le_refl _) rfl rfl
    | slc b q len c e' ex =>
      have hsv0 := hsv
      simp only [VR] at hsv; obtain ⟨d, q', cap, hs, hS, hle, hx1, hx2⟩ := hsv
      obtain ⟨rfl, rfl⟩ := ok_inj e2; exact key _ _ _ hS hle rfl rfl
    | slx m =>
      have hsv0 := hsv
      simp only [VR] at hsv; obtain ⟨a, cap, hS, hle⟩ := hsv
      obtain ⟨rfl, rfl⟩ := ok_inj e2; exact key _ _ _ hS hle rfl rfl
    | _ => exact (no_ok (e := e2)).elim
end
end Go.Ev

/- builtins. -/
namespace Go.Ev
open Go Go.RowKit

section
variable {P : Program} {N : Nat → Prop} {nt : Nat} {Γ : Ctx} {h h' : Hp} {w : World} {v : AV} {f : F} {a : Act} {o : Oper}

theorem GivesV.pure {s : Sem Value} {val : Value} (hR : Rel N Γ h w) (hr : s.run P w = .ok val w) (hv : VR Γ v val) : GivesV P N Γ w s v h :=
  ⟨Γ, val, w, hr, .refl Γ, hv, hR, .refl N w⟩
theorem zeroOf_all {α : Type} {t : TypeId} {d r : α} {c : AV → α} (e : cellsK (zeroOf P t) d c = r) (hr : r ≠ d) :
    ∃ z l, (∀ w, (zeroValue t).run P w = .ok z w) ∧ c l = r ∧ (∀ Γ, VRs Γ l z.cells.toList) ∧ (∀ Γ, VR Γ (zeroOf P t) z) := by
  obtain ⟨l, e2, hl⟩ := cellsK_inv e hr
  unfold zeroOf at *
  cases hz : (P.info? t).bind (·.zero) with
  | none => rw [hz] at e; exact absurd e.symm hr
  | some z =>
    rw [hz] at hl
    obtain ⟨i, hi, hz2⟩ := Option.bind_eq_some_iff.1 hz
    exact ⟨z, l, fun w => by simp [zeroValue, run_typeInfo hi, hz2], e2, fun Γ => hl Γ z (VR_cv Γ z), fun Γ => VR_cv Γ z⟩
theorem ty0_sl {ts : Array TypeId} {el : TypeId} (h : ty0 P ts = .sl el) : ∃ t, ts[0]? = some t ∧ P.underlying t = some (.slice el) ∧ P.info? el ≠ none := by
  unfold ty0 at h
  split at h
  · rename_i t ht; obtain ⟨h1, h2⟩ := tyOf_sl h; exact ⟨t, ht, h1, h2⟩
  · cases h
theorem noInt_inv {ts : Array TypeId} (h : noInt P ts = true) : ∃ t d, ts[1]? = some t ∧ P.underlying t = some d ∧ (∀ k, d ≠ .int k) := by
  unfold noInt at h
  split at h
  · rename_i t ht
    split at h
    · cases h
    · rename_i d hd hu; exact ⟨t, d, ht, hu, fun k hk => hd k hk⟩
    · cases h
  · cases h
theorem ty_sl {ts : Array TypeId} {F : TypeId → Ev.R} {r : Ev.R} (e : Ty.rec (motive := fun _ => Ev.R) F (fun _ _ => .no) .no .no (ty0 P ts) = r) (hr : r ≠ .no) : ∃ el, ty0 P ts = .sl el ∧ F el = r := by
  cases ht : ty0 P ts with
  | sl el => rw [ht] at e; exact ⟨el, rfl, e⟩
  | _ => rw [ht] at e; exact absurd e.symm hr
theorem arg2_inv {l : List Operand} {c : AV → AV → Ev.R} {r : Ev.R} (e : arg2 l f c = r) (hr : r ≠ .no) : ∃ x y, l = [x, y] ∧ c (opd x f) (opd y f) = r := by
  match l with
  | [x, y] => exact ⟨x, y, rfl, e⟩
  | [] => exact absurd e.symm hr
  | [x] => exact absurd e.symm hr
  | _ :: _ :: _ :: _ => exact absurd e.symm hr
theorem arg0_inv {l : List Operand} {c : AV → Ev.R} {r : Ev.R} (e : arg0 l f c = r) (hr : r ≠ .no) : ∃ x, l = [x] ∧ c (opd x f) = r := by
  match l with
  | [x] => exact ⟨x, rfl, e⟩
  | [] => exact absurd e.symm hr
  | _ :: _ :: _ => exact absurd e.symm hr

theorem appendB_ok (hR : Rel N Γ h w) (hf : FR nt Γ f a) {ts : Array TypeId} {ty : TypeId} {l : List Operand} (e : appendB P ts l f h = .ok v h') :
    GivesV P N Γ w (Builtin.append_ ts ty (l.map a.eval).toArray) v h' := by
  obtain ⟨el, ht, e1⟩ := ty_sl e ok_ne_no
  obtain ⟨hc, e2⟩ := cond_inv e1 ok_ne_no
  obtain ⟨x, y, rfl, e3⟩ := arg2_inv e2 ok_ne_no
  rw [Bool.and_eq_true, Bool.and_eq_true] at hc
  obtain ⟨t, h0, hu, hi⟩ := ty0_sl ht
  have hT : AppT P ts el := by
    refine ⟨⟨t, h0, hu⟩, noInt_inv hc.2, hi, fun i hi' => ?_, ?_⟩
    · have := Nat.le_of_ble_eq_true hc.1.2
      unfold byOf at this; rw [hi'] at this; exact this
    · obtain ⟨z, zl, hz, e4, hl, _⟩ := zeroOf_all (show cellsK (zeroOf P el) false _ = true from hc.1.1) (by simp)
      refine ⟨z, hz, ?_⟩
      rw [← Nat.eq_of_beq_eq_true e4, lenL_vals (Γ := Γ) zl _ (hl _)]; simp
  exact appendR_ok hR hT (opd_rel hR hf x) (opd_rel hR hf y) e3

theorem copyB_ok (hR : Rel N Γ h w) (hf : FR nt Γ f a) {ts : Array TypeId} {ty : TypeId} {l : List Operand} (e : copyB P ts l f h = .ok v h') :
    GivesV P N Γ w (Builtin.copy_ ts ty (l.map a.eval).toArray) v h' := by
  obtain ⟨el, ht, e1⟩ := ty_sl e ok_ne_no
  obtain ⟨x, y, rfl, e2⟩ := arg2_inv e1 ok_ne_no
  obtain ⟨t, h0, hu, hi⟩ := ty0_sl ht
  have hx := opd_rel hR hf x
  have hy := opd_rel hR hf y
  obtain ⟨dl, e3, hld, hkd⟩ := lenK_ok (P := P) (w := w) (show lenK (opd x f) Ev.R.no _ = _ from e2) ok_ne_no hx
  obtain ⟨sl, e4, hls, hks⟩ := lenK_ok (P := P) (w := w) (show lenK (opd y f) Ev.R.no _ = _ from e3) ok_ne_no hy
  rw [forceN_eq] at e4
  cases h0' : Nat.beq (Nat.min sl dl) 0 <;> rw [h0'] at e4
  · rw [cond_false] at e4
    obtain ⟨rs, us, e5, hrs, hl, hrun, _⟩ := firstK_ok (P := P) hR hy (hks.imp (fun ⟨a, c, h⟩ => ⟨a, _, c, h⟩) (fun ⟨s, h, _⟩ => ⟨s, h⟩)) e4 ok_ne_no
    obtain ⟨b, q, n, c, es, ex, hxe, e6⟩ := AV.slcK_inv e5 ok_ne_no
    obtain ⟨rfl, e7⟩ := beq_inv e6 ok_ne_no
    obtain ⟨hb, e8⟩ := wr_inv e7 ok_ne_no
    rw [hxe] at hx; simp only [VR] at hx
    obtain ⟨d, q', cap, hs, hX, hle, _⟩ := hx
    obtain ⟨l', ob', hp, e9, hl'⟩ := putRow_ok hR hs hrs e8 ok_ne_no
    obtain ⟨rfl, rfl⟩ := okI_ok e9
    obtain ⟨w', hst, hR', hbel⟩ := storeCells_ok (P := P) hs hb l' us h w q (q' + q) 0 ob' hR hp hl' (by omega)
    have hdl : n = dl := by
      rw [hX] at hld
      simp [Builtin.lenOf] at hld
      exact hld
    refine ⟨Γ, goInt (Nat.min sl dl), w', ?_, .refl Γ, ?_, hR', hbel⟩
    · simp [Builtin.copy_, h0, hX, run_underlying' hu, hls, szOf_info hi, hdl, hrun w rfl, hst]
    · simp [VR, goInt]
  · rw [cond_true] at e4
    have hn0 := Nat.eq_of_beq_eq_true h0'
    have hsl : (∃ base cap, a.eval x = .slice base dl cap) ∧ okI .i64 (.ofNat 0) h = .ok v h' := by
      cases hox : opd x f with
      | slc b q n c es ex => rw [hox] at e4 hx; simp only [VR] at hx; obtain ⟨d, q', cap, _, hX, _⟩ := hx; rw [hX] at hld ⊢; simp [Builtin.lenOf] at hld; subst hld; exact ⟨⟨_, _, rfl⟩, e4⟩
      | nils => rw [hox] at e4 hx; simp only [VR] at hx; rw [hx] at hld ⊢; simp [Builtin.lenOf] at hld; subst hld; exact ⟨⟨_, _, rfl⟩, e4⟩
      | slx n => rw [hox] at e4 hx; simp only [VR] at hx; obtain ⟨d, cap, hX, _⟩ := hx; rw [hX] at hld ⊢; simp [Builtin.lenOf] at hld; subst hld; exact ⟨⟨_, _, rfl⟩, e4⟩
      | _ => rw [hox] at e4; exact (no_ok (e := e4)).elim
    obtain ⟨⟨base, cap, hX⟩, e5⟩ := hsl
    obtain ⟨rfl, rfl⟩ := okI_ok e5
    have hfirst : (Builtin.firstCells (szOf P el) 0 (a.eval y)).run P w = .ok #[] w := by
      rcases hks with ⟨a', c', hY⟩ | ⟨s, hY, _⟩
      · rw [hY]; cases a' <;> simp [Builtin.firstCells, loadCells, loadCellsFrom]
      · rw [hY]; simp [Builtin.firstCells]
    refine GivesV.pure hR (val := goInt 0) ?_ (by simp [VR, goInt])
    cases base <;> simp [Builtin.copy_, h0, hX, run_underlying' hu, hls, szOf_info hi, hn0, hfirst, storeCells]
end
end Go.Ev

/- builtins: len, cap, max, min, clear of slices. -/
namespace Go.Ev
open Go Go.RowKit

section
variable {P : Program} {N : Nat → Prop} {nt : Nat} {Γ : Ctx} {h h' : Hp} {w : World} {v : AV} {f : F} {a : Act} {o : Oper}

theorem Rel.mapAt (hR : Rel N Γ h w) {b c q : Nat} {es : List ME} {clock : Nat} (hs : Γ.σ b = some (c, q)) (ho : obAt b h = .map es clock) : q = 0 ∧ ∃ arr, w.heap[c]? = some (.map arr clock) ∧ MEs Γ es arr.toList := by
  obtain ⟨obj, h1, h2⟩ := hR.live b c q hs
  rw [ho] at h2
  obtain ⟨hq, arr, rfl, hm⟩ := h2
  exact ⟨hq, arr, h1, hm⟩
theorem MEs.length : ∀ (es : List ME) (ms : List MapEntry), MEs Γ es ms → ms.length = es.length := by
  intro es
  induction es with
  | nil => intro ms h; simp only [MEs] at h; subst h; rfl
  | cons e r ih => intro ms h; simp only [MEs] at h; obtain ⟨m, s, rfl, _, _, _, h2⟩ := h; simp [ih s h2]
theorem run_getObj {c : Nat} {es : Array MapEntry} {clock : Nat} (h : w.heap[c]? = some (.map es clock)) : (getObj c).run P w = .ok (.map es clock) w := by
  simp [getObj, Sem.run, h]

theorem lenB_ok (hR : Rel N Γ h w) (hf : FR nt Γ f a) {ts : Array TypeId} {ty : TypeId} {l : List Operand} (e : lenB P ts l f h = .ok v h') :
    GivesV P N Γ w (Builtin.len_ ts ty (l.map a.eval).toArray) v h' := by
  obtain ⟨x, rfl, e1⟩ := arg0_inv e ok_ne_no
  have hx := opd_rel hR hf x
  unfold lenR at e1
  unfold lenTs at e1
  cases ht : ts[0]? with
  | none => rw [ht] at e1; exact (no_ok (e := e1)).elim
  | some t =>
    rw [ht] at e1
    have e1 : LenT.rec (motive := fun _ => Ev.R) _ _ _ _ _ (lenT P t) = _ := e1
    cases hu : P.underlying t with
    | none => unfold lenT at e1; rw [hu] at e1; exact (no_ok (e := e1)).elim
    | some d =>
      unfold lenT at e1; rw [hu] at e1
      cases d with
      | array n el =>
        obtain ⟨rfl, rfl⟩ := okI_ok e1
        refine GivesV.pure hR (val := goInt n) ?_ (by simp [VR, goInt])
        simp [Builtin.len_, ht, run_underlying' hu]
      | pointer p =>
        cases hu2 : P.underlying p with
        | none => simp only [hu2] at e1; exact (no_ok (e := e1)).elim
        | some d2 =>
          cases d2 with
          | array n el =>
            simp only [hu2] at e1
            obtain ⟨rfl, rfl⟩ := okI_ok e1
            refine GivesV.pure hR (val := goInt n) ?_ (by simp [VR, goInt])
            simp [Builtin.len_, ht, run_underlying' hu, run_underlying' hu2]
          | _ => simp only [hu2] at e1; exact (no_ok (e := e1)).elim
      | map k el =>
        cases hox : opd x f with
        | nilm =>
          rw [hox] at e1 hx; simp only [VR] at hx
          obtain ⟨rfl, rfl⟩ := okI_ok e1
          refine GivesV.pure hR (val := goInt 0) ?_ (by simp [VR, goInt])
          simp [Builtin.len_, ht, run_underlying' hu, hx]
        | map b =>
          rw [hox] at e1 hx; simp only [VR] at hx
          obtain ⟨c, hs, hX⟩ := hx
          have e1 : mapLenR b h = _ := e1
          unfold mapLenR at e1
          split at e1
          · rename_i es clock ho
            obtain ⟨_, arr, h1, hm⟩ := hR.mapAt hs ho
            obtain ⟨rfl, rfl⟩ := okI_ok e1
            have := MEs.length _ _ hm
            refine GivesV.pure hR (val := goInt es.length) ?_ (by simp [VR, goInt])
            simp at this
            simp [Builtin.len_, ht, run_underlying' hu, hX, run_getObj h1, this]
          · exact (no_ok (e := e1)).elim
        | _ => rw [hox] at e1; exact (no_ok (e := e1)).elim
      | slice el =>
        have key : ∀ base n cap, a.eval x = .slice base n cap → okI .i64 (.ofNat n) h = .ok v h' → GivesV P N Γ w (Builtin.len_ ts ty ([x].map a.eval).toArray) v h' := by
          intro base n cap hX e2
          obtain ⟨rfl, rfl⟩ := okI_ok e2
          refine GivesV.pure hR (val := goInt n) ?_ (by simp [VR, goInt])
          simp [Builtin.len_, ht, run_underlying' hu, hX]
        cases hox : opd x f with
        | slc b q n c es ex => rw [hox] at e1 hx; simp only [VR] at hx; obtain ⟨d, q', cap, _, hX, _⟩ := hx; exact key _ _ _ hX e1
        | nils => rw [hox] at e1 hx; simp only [VR] at hx; exact key _ _ _ hx e1
        | slx n => rw [hox] at e1 hx; simp only [VR] at hx; obtain ⟨d, cap, hX, _⟩ := hx; exact key _ _ _ hX e1
        | _ => rw [hox] at e1; exact (no_ok (e := e1)).elim
      | string =>
        cases hox : opd x f with
        | str n s =>
          rw [hox] at e1 hx; simp only [VR] at hx
          obtain ⟨rfl, rfl⟩ := okI_ok e1
          refine GivesV.pure hR (val := goInt n) ?_ (by simp [VR, goInt])
          simp [Builtin.len_, ht, run_underlying' hu, hx.1, bstr_size]
        | _ => rw [hox] at e1; exact (no_ok (e := e1)).elim
      | _ => exact (no_ok (e := e1)).elim

theorem capB_ok (hR : Rel N Γ h w) (hf : FR nt Γ f a) {ts : Array TypeId} {ty : TypeId} {l : List Operand} (e : capB P ts l f h = .ok v h') :
    GivesV P N Γ w (Builtin.cap_ ts ty (l.map a.eval).toArray) v h' := by
  obtain ⟨el, ht, e1⟩ := ty_sl e ok_ne_no
  obtain ⟨x, rfl, e2⟩ := arg0_inv e1 ok_ne_no
  obtain ⟨t, h0, hu, hi⟩ := ty0_sl ht
  have hx := opd_rel hR hf x
  have key : ∀ base n cap, a.eval x = .slice base n cap → h' = h → VR Γ v (goInt cap) → GivesV P N Γ w (Builtin.cap_ ts ty ([x].map a.eval).toArray) v h' := by
    intro base n cap hX e2 e3
    subst e2
    refine GivesV.pure hR (val := goInt cap) ?_ e3
    simp [Builtin.cap_, h0, run_underlying' hu, hX]
  cases hox : opd x f with
  | slc b q n c es ex =>
    rw [hox] at e2 hx; simp only [VR] at hx; obtain ⟨d, q', cap, _, hX, _, h1, _⟩ := hx
    cases ex
    · obtain ⟨rfl, rfl⟩ := ok_inj (show Ev.R.ok .top h = .ok v h' from e2)
      exact key _ _ _ hX rfl (by simp [VR])
    · obtain ⟨rfl, rfl⟩ := okI_ok (show okI .i64 (.ofNat c) h = .ok v h' from e2)
      exact key _ _ _ hX rfl (by rw [h1 rfl]; simp [VR, goInt])
  | nils => rw [hox] at e2 hx; simp only [VR] at hx; obtain ⟨rfl, rfl⟩ := okI_ok e2; exact key _ _ _ hx rfl (by simp [VR, goInt])
  | _ => rw [hox] at e2; exact (no_ok (e := e2)).elim

theorem mm_ok (hR : Rel N Γ h w) (hf : FR nt Γ f a) {ts : Array TypeId} {ty : TypeId} {l : List Operand} {mx : Bool} (e : mm mx l f h = .ok v h') :
    GivesV P N Γ w (cond mx (Builtin.max_ ts ty (l.map a.eval).toArray) (Builtin.min_ ts ty (l.map a.eval).toArray)) v h' := by
  cases l with
  | nil => exact (no_ok (e := e)).elim
  | cons x r =>
    obtain ⟨k, z, hx, e1⟩ := AV.intK_inv (show AV.intK (opd x f) Ev.R.no _ = _ from e) ok_ne_no
    have hxr := opd_rel hR hf x
    rw [hx] at hxr; simp only [VR] at hxr
    clear hx e
    have key : ∀ (r : List Operand) (z : Int), List.rec (motive := fun _ => Int → Ev.R) (fun z => okI k z h) (fun y _ ih z => (opd y f).intK .no fun j u => cond (Nat.beq (kN k) (kN j)) (ih (cond mx (if z < u then u else z) (if u < z then u else z))) .no) r z = .ok v h' →
        h' = h ∧ ∃ z', v = .int k z' ∧ (List.foldlM (m := Sem) (cond mx Builtin.max2 Builtin.min2) (.int k z) (r.map a.eval)).run P w = .ok (.int k z') w := by
      intro r
      induction r with
      | nil => intro z e; obtain ⟨rfl, rfl⟩ := okI_ok e; exact ⟨rfl, z, rfl, by simp⟩
      | cons y r ih =>
        intro z e
        obtain ⟨j, u, hy, e1⟩ := AV.intK_inv e ok_ne_no
        have hyr := opd_rel hR hf y
        rw [hy] at hyr; simp only [VR] at hyr
        obtain ⟨_, e2⟩ := beq_inv e1 ok_ne_no
        obtain ⟨h1, z', h2, h3⟩ := ih _ e2
        refine ⟨h1, z', h2, ?_⟩
        rw [List.map_cons, List.foldlM_cons, hyr]
        cases mx
        · simp only [cond_false] at h3 ⊢
          simp [Builtin.min2, h3]
        · simp only [cond_true] at h3 ⊢
          simp [Builtin.max2, h3]
    obtain ⟨rfl, z', rfl, hrun⟩ := key r z e1
    refine GivesV.pure hR (val := .int k z') ?_ (by simp [VR])
    cases mx
    · simpa [Builtin.min_, hxr] using hrun
    · simpa [Builtin.max_, hxr] using hrun
end
end Go.Ev

/- maps. -/
namespace Go.Ev
open Go Go.RowKit

section
variable {P : Program} {N : Nat → Prop} {nt : Nat} {Γ : Ctx} {h h' : Hp} {w : World} {v : AV} {f : F} {a : Act} {o : Oper}

def ktD : Kt → TypeDesc
  | .i k => .int k
  | .s => .string
theorem keyIs_isKey {kt : Kt} {k : AV} {K : Value} (e : keyIs kt k = true) (hv : VR Γ k K) : MapKept.IsKey (ktD kt) K := by
  cases kt with
  | i j =>
    obtain ⟨j', z, rfl, e2⟩ := AV.intK_inv (show AV.intK k false _ = true from e) (by simp)
    simp only [VR] at hv; subst hv
    exact (kN_inj (Nat.eq_of_beq_eq_true e2)).symm
  | s =>
    obtain ⟨n, s, rfl, _⟩ := AV.strK_inv (show AV.strK k false _ = true from e) (by simp)
    simp only [VR] at hv; obtain ⟨rfl, _⟩ := hv
    trivial
theorem keyEq_ok {x y : AV} {X Y : Value} {r : Bool} {d : TypeDesc} (e : keyEq x y = some r) (hx : VR Γ x X) (hy : VR Γ y Y) (hk : MapKept.IsKey d X) : MapKept.IsKey d Y ∧ (r = true ↔ X = Y) := by
  cases x with
  | int k z =>
    obtain ⟨j, z', rfl, e2⟩ := AV.intK_inv (show AV.intK y none _ = some r from e) (by simp)
    obtain ⟨hkj, e3⟩ := beq_inv e2 (by simp)
    have hkj := kN_inj hkj; subst hkj
    simp only [VR] at hx hy; subst hx hy
    refine ⟨by cases d <;> exact hk, ?_⟩
    cases z with
    | negSucc _ => cases z' <;> exact absurd e3 (by simp [twoN])
    | ofNat m =>
      cases z' with
      | negSucc _ => exact absurd e3 (by simp [twoN])
      | ofNat n =>
        have e3 : some (Nat.beq m n) = some r := e3
        cases e3
        constructor
        · intro h; rw [Nat.eq_of_beq_eq_true h]
        · intro h; cases h; exact Nat.beq_refl _
  | str n s =>
    obtain ⟨m, t, rfl, e2⟩ := AV.strK_inv (show AV.strK y none _ = some r from e) (by simp)
    simp only [VR] at hx hy; obtain ⟨rfl, hs⟩ := hx; obtain ⟨rfl, ht⟩ := hy
    refine ⟨by cases d <;> exact hk, ?_⟩
    cases e2
    rw [eqS4_eq hs ht]
    constructor
    · intro h
      have h : bl n s = bl m t := by simpa using h
      simp [bstr, h]
    · intro h
      have h := congrArg (fun v => match v with | Value.string b => b.data.toList | _ => []) h
      simpa [bstr] using h
  | _ => exact absurd (show (none : Option Bool) = _ from e) (by simp)
theorem findME_ok {k : AV} {K : Value} {d : TypeDesc} (hv : VR Γ k K) (hk : MapKept.IsKey d K) : ∀ (es : List ME) (ms : List MapEntry) (i : Nat) (r : Option (Nat × ME)), MEs Γ es ms → findME k es i = some r →
    match r with
    | none => Instr.findNow d K ms i = some none
    | some (j, e) => ∃ j' m, j = i + j' ∧ es[j']? = some e ∧ ms[j']? = some m ∧ m.key = K ∧ m.born = e.born ∧ VR Γ e.v m.val ∧ Instr.findNow d K ms i = some (some (j, m.val)) := by
  intro es
  induction es with
  | nil =>
    intro ms i r hm e
    simp only [MEs] at hm; subst hm
    cases (show some none = some r from e)
    rfl
  | cons x es ih =>
    intro ms i r hm e
    simp only [MEs] at hm
    obtain ⟨m, s, rfl, h1, h2, h3, h4⟩ := hm
    rw [findME] at e
    split at e
    · rename_i hq
      cases e
      obtain ⟨hk2, hiff⟩ := keyEq_ok hq hv h1 hk
      obtain ⟨r, hr, hr2⟩ := MapKept.sameNow_of_keys hk hk2
      have hKm := hiff.1 rfl
      have : r = true := hr2.2 hKm
      subst this
      exact ⟨0, m, rfl, rfl, rfl, hKm.symm, h3, h2, by simp [Instr.findNow, hr]⟩
    · rename_i hq
      obtain ⟨hk2, hiff⟩ := keyEq_ok hq hv h1 hk
      obtain ⟨r', hr, hr2⟩ := MapKept.sameNow_of_keys hk hk2
      have hKm : K ≠ m.key := fun h => by have := hiff.2 h; cases this
      have : r' = false := by cases r' with | false => rfl | true => exact absurd (hr2.1 rfl) hKm
      subst this
      have := ih s (i + 1) r h4 e
      cases r with
      | none => simp only at this ⊢; simp [Instr.findNow, hr, this]
      | some p =>
        obtain ⟨j, e'⟩ := p
        simp only at this ⊢
        obtain ⟨j', m', rfl, g1, g2, g3, g4, g5, g6⟩ := this
        exact ⟨j' + 1, m', by omega, by simpa using g1, by simpa using g2, g3, g4, g5, by simp [Instr.findNow, hr, g6]⟩
    · cases e
theorem mapEl_inv {t : TypeId} {kt : Kt} {el : TypeId} (e : mapEl P t = some (kt, el)) : ∃ k, P.underlying t = some (.map k el) ∧ P.underlying k = some (ktD kt) := by
  unfold mapEl at e
  split at e
  · rename_i k e' hu
    split at e
    · rename_i hk; cases e; exact ⟨k, hu, hk⟩
    · rename_i hk; cases e; exact ⟨k, hu, hk⟩
    · cases e
  · cases e
theorem findK_inv {kt : Kt} {k : AV} {es : List ME} {c : Option (Nat × ME) → Ev.R} {r : Ev.R} (e : findK kt k es c = r) (hr : r ≠ .no) : keyIs kt k = true ∧ ∃ x, findME k es 0 = some x ∧ c x = r := by
  obtain ⟨h1, e2⟩ := cond_inv e hr
  split at e2
  · rename_i x hx; exact ⟨h1, x, hx, e2⟩
  · exact absurd e2.symm hr
theorem mapK'_inv {b : Nat} {c : List ME → Nat → Ev.R} {r : Ev.R} (e : mapK' b h c = r) (hr : r ≠ .no) : ∃ es clock, obAt b h = .map es clock ∧ c es clock = r := by
  unfold mapK' at e
  split at e
  · rename_i es clock ho; exact ⟨es, clock, ho, e⟩
  · exact absurd e.symm hr
theorem run_lookup {t k el : TypeId} {d : TypeDesc} {X K : Value} {ms : Array MapEntry} {ok : Bool} {r : Option (Nat × Value)} {u : Value} (hu : P.underlying t = some (.map k el)) (hk : P.underlying k = some d) (hkey : MapKept.IsKey d K)
    (hX : (X = .map none ∧ ms = #[]) ∨ (∃ b c, X = .map (some b) ∧ w.heap[b]? = some (.map ms c))) (hfind : Instr.findNow d K ms.toList 0 = some r)
    (hr : (∃ i, r = some (i, u)) ∨ (r = none ∧ (zeroValue el).run P w = .ok u w)) : (Instr.lookup t X K ok).run P w = .ok (if ok then .tuple #[u, .bool r.isSome] else u) w := by
  rcases hX with ⟨rfl, rfl⟩ | ⟨b, c, rfl, hb⟩ <;> rcases hr with ⟨i, rfl⟩ | ⟨rfl, hz⟩
  · simp [Instr.findNow] at hfind
  · simp [Instr.lookup, run_underlying' hu, MapKept.run_checkKey hk hkey, MapKept.run_findKey hk hfind, hz, Result.andThen]
  · simp [Instr.lookup, run_underlying' hu, run_getObj hb, MapKept.run_checkKey hk hkey, MapKept.run_findKey hk hfind, Result.andThen]
  · simp [Instr.lookup, run_underlying' hu, run_getObj hb, MapKept.run_checkKey hk hkey, MapKept.run_findKey hk hfind, hz, Result.andThen]
theorem exLookup_ok {t : TypeId} {m k : Operand} {ok : Bool} (hR : Rel N Γ h w) (hf : FR nt Γ f a) (ho : o.op = .lookup t m k ok) (e : exLookup P t m k ok f h = .ok v h') : Gives P N Γ w (execOp a.eval o) v h' := by
  have hm := opd_rel hR hf m
  have hkv := opd_rel hR hf k
  unfold exLookup at e
  split at e
  · exact (no_ok (e := e)).elim
  · rename_i kt el hme
    obtain ⟨kk, hu, hk⟩ := mapEl_inv hme
    have key : ∀ (es : List ME) (ms : Array MapEntry), MEs Γ es ms.toList → ((a.eval m = .map none ∧ ms = #[]) ∨ (∃ b c, a.eval m = .map (some b) ∧ w.heap[b]? = some (.map ms c))) →
        findK kt (opd k f) es (foundR P ok el h) = .ok v h' → Gives P N Γ w (execOp a.eval o) v h' := by
      intro es ms hms hX e
      obtain ⟨hki, x, hx, e2⟩ := findK_inv e ok_ne_no
      have hkey := keyIs_isKey hki hkv
      have hfm := findME_ok hkv hkey es ms.toList 0 x hms hx
      cases x with
      | none =>
        simp only at hfm
        unfold foundR at e2
        dsimp only at e2
        obtain ⟨z, l, hz, e3, _, hzv⟩ := zeroOf_all e2 ok_ne_no
        have hrun := run_lookup (ok := ok) hu hk hkey hX hfm (.inr ⟨rfl, hz w⟩)
        cases ok
        · obtain ⟨rfl, rfl⟩ := ok_inj (show Ev.R.ok _ _ = _ from e3)
          exact Gives.pure hR (val := z) (by simp [execOp, ho]; rw [hrun]; rfl) (hzv Γ)
        · obtain ⟨rfl, rfl⟩ := ok_inj (show Ev.R.ok _ _ = _ from e3)
          exact Gives.pure hR (val := .tuple #[z, .bool false]) (by simp [execOp, ho]; rw [hrun]; rfl) (by simp [VR, VRs]; exact hzv Γ)
      | some p =>
        obtain ⟨j, me⟩ := p
        simp only at hfm
        obtain ⟨j', m', _, _, _, _, _, hval, hfn⟩ := hfm
        have hrun := run_lookup (ok := ok) hu hk hkey hX hfn (.inl ⟨_, rfl⟩)
        cases ok
        · obtain ⟨rfl, rfl⟩ := ok_inj (show Ev.R.ok _ _ = _ from e2)
          exact Gives.pure hR (val := m'.val) (by simp [execOp, ho]; rw [hrun]; rfl) hval
        · obtain ⟨rfl, rfl⟩ := ok_inj (show Ev.R.ok _ _ = _ from e2)
          exact Gives.pure hR (val := .tuple #[m'.val, .bool true]) (by simp [execOp, ho]; rw [hrun]; rfl) (by simp [VR, VRs]; exact hval)
    cases hom : opd m f with
    | nilm => rw [hom] at e hm; simp only [VR] at hm; exact key [] #[] (by simp [MEs]) (.inl ⟨hm, rfl⟩) e
    | map b =>
      rw [hom] at e hm; simp only [VR] at hm
      obtain ⟨c, hs, hX⟩ := hm
      obtain ⟨es, clock, hob, e2⟩ := mapK'_inv (show mapK' b h _ = _ from e) ok_ne_no
      obtain ⟨_, arr, hb, hms⟩ := hR.mapAt hs hob
      exact key es arr hms (.inr ⟨c, clock, hX, hb⟩) e2
    | _ => rw [hom] at e; exact (no_ok (e := e)).elim
end
end Go.Ev

/- maps that change. -/
namespace Go.Ev
open Go Go.RowKit

section
variable {P : Program} {N : Nat → Prop} {nt : Nat} {Γ : Ctx} {h h' : Hp} {w : World} {v : AV} {f : F} {a : Act} {o : Oper}

theorem MEs_set {k x : AV} {K V : Value} (hk : VR Γ k K) (hx : VR Γ x V) : ∀ (es : List ME) (ms : List MapEntry) (i : Nat) (e : ME), MEs Γ es ms → es[i]? = some e → MEs Γ (es.set i ⟨k, x, e.born⟩) (ms.modify i fun m => { m with key := K, val := V }) := by
  intro es
  induction es with
  | nil => intro ms i e _ h; simp at h
  | cons y r ih =>
    intro ms i e hm he
    simp only [MEs] at hm
    obtain ⟨m, s, rfl, h1, h2, h3, h4⟩ := hm
    cases i with
    | zero =>
      simp at he; subst he
      simp only [List.set_cons_zero, List.modify_zero_cons, MEs]
      exact ⟨_, s, rfl, hk, hx, h3, h4⟩
    | succ i =>
      simp at he
      simp only [List.set_cons_succ, List.modify_succ_cons, MEs]
      exact ⟨m, _, rfl, h1, h2, h3, ih s i e h4 he⟩
theorem MEs_push {k x : AV} {K V : Value} {c : Nat} (hk : VR Γ k K) (hx : VR Γ x V) : ∀ (es : List ME) (ms : List MapEntry), MEs Γ es ms → MEs Γ (es ++ [⟨k, x, c⟩]) (ms ++ [⟨K, V, c⟩]) := by
  intro es
  induction es with
  | nil => intro ms hm; simp only [MEs] at hm; subst hm; simp only [List.nil_append, MEs]; exact ⟨_, [], rfl, hk, hx, rfl, rfl⟩
  | cons y r ih =>
    intro ms hm
    simp only [MEs] at hm
    obtain ⟨m, s, rfl, h1, h2, h3, h4⟩ := hm
    simp only [List.cons_append, MEs]
    exact ⟨m, _, rfl, h1, h2, h3, ih s h4⟩
theorem MEs_erase : ∀ (es : List ME) (ms : List MapEntry) (i : Nat), MEs Γ es ms → MEs Γ (es.eraseIdx i) (ms.eraseIdx i) := by
  intro es
  induction es with
  | nil => intro ms i hm; simp only [MEs] at hm; subst hm; simp [MEs]
  | cons y r ih =>
    intro ms i hm
    simp only [MEs] at hm
    obtain ⟨m, s, rfl, h1, h2, h3, h4⟩ := hm
    cases i with
    | zero => simpa using h4
    | succ i => simp only [List.eraseIdx_cons_succ, MEs]; exact ⟨m, _, rfl, h1, h2, h3, ih s i h4⟩
/-- a map's block is laid anew -/
theorem Rel.setMap (hR : Rel N Γ h w) {b c q : Nat} {es es' : List ME} {clock clock' : Nat} {arr' : Array MapEntry} (hs : Γ.σ b = some (c, q)) (hb : gN ≤ b) (ho : obAt b h = .map es clock) (hm : MEs Γ es' arr'.toList) :
    Rel N Γ (setOb b (.map es' clock') h) { w with heap := w.heap.setIfInBounds c (.map arr' clock') } ∧ Below N w { w with heap := w.heap.setIfInBounds c (.map arr' clock') } := by
  obtain ⟨hq, arr, h1, _⟩ := hR.mapAt hs ho
  obtain ⟨g1, g2⟩ := MapKept.heap_set (o' := .map arr' clock') h1
  refine ⟨hR.set hs (by rw [ho]; simp) ⟨hq, arr', rfl, hm⟩ (fun _ _ _ h => by cases h) (by simp) g1 g2 (fun t ht => by cases ht), ⟨rfl, rfl, rfl, by simp, fun k hk => g2 k ?_⟩⟩
  exact fun e => hR.own b c q hs hb (e ▸ hk)
theorem exMapUpdate_ok {t : TypeId} {m k x : Operand} (hR : Rel N Γ h w) (hf : FR nt Γ f a) (ho : o.op = .mapUpdate t m k x ∨ o.op = .insert t m k x) (e : exMapUpdate P t m k x f h = .ok v h') : Gives P N Γ w (execOp a.eval o) v h' := by
  have hm := opd_rel hR hf m
  have hkv := opd_rel hR hf k
  have hxv := opd_rel hR hf x
  have hex : ∀ w', (Instr.mapUpdate t (a.eval m) (a.eval k) (a.eval x)).run P w = .ok () w' → (execOp a.eval o).run P w = .ok .skip w' := by
    intro w' hr
    rcases ho with ho | ho <;> simp [execOp, ho, hr]
  unfold exMapUpdate at e
  split at e
  · exact (no_ok (e := e)).elim
  · rename_i kt el hme
    obtain ⟨kk, hu, hk⟩ := mapEl_inv hme
    obtain ⟨b, hom, e1⟩ := AV.mapK_inv e ok_ne_no
    rw [hom] at hm; simp only [VR] at hm
    obtain ⟨c, hs, hX⟩ := hm
    obtain ⟨hb, e2⟩ := wr_inv e1 ok_ne_no
    obtain ⟨es, clock, hob, e3⟩ := mapK'_inv e2 ok_ne_no
    obtain ⟨_, arr, hbk, hms⟩ := hR.mapAt hs hob
    obtain ⟨hki, y, hy, e4⟩ := findK_inv e3 ok_ne_no
    have hkey := keyIs_isKey hki hkv
    have hfm := findME_ok hkv hkey es arr.toList 0 y hms hy
    cases y with
    | none =>
      simp only at hfm
      obtain ⟨rfl, rfl⟩ := ok_inj (show Ev.R.ok _ _ = _ from e4)
      obtain ⟨hR', hbel⟩ := hR.setMap (arr' := arr.push ⟨a.eval k, a.eval x, clock⟩) (clock' := clock + 1) hs hb hob (by rw [Array.toList_push]; exact MEs_push hkv hxv es arr.toList hms)
      refine ⟨Γ, undef, _, .skip, hex _ ?_, .inr ⟨rfl, rfl⟩, .refl Γ, VR_un Γ, hR', hbel⟩
      simp [Instr.mapUpdate, hX, run_underlying' hu, run_getObj hbk, MapKept.run_checkKey hk hkey, MapKept.run_findKey hk hfm, MapKept.run_setObj_map _ hbk, Result.andThen]
    | some p =>
      obtain ⟨j, me⟩ := p
      simp only at hfm
      obtain ⟨j', m', hj, g1, g2, g3, g4, hval, hfn⟩ := hfm
      rw [Nat.zero_add] at hj; subst hj
      obtain ⟨rfl, rfl⟩ := ok_inj (show Ev.R.ok _ _ = _ from e4)
      obtain ⟨hR', hbel⟩ := hR.setMap (arr' := arr.modify j fun m => { m with key := a.eval k, val := a.eval x }) (clock' := clock) hs hb hob (by rw [Array.toList_modify]; exact MEs_set hkv hxv es arr.toList j me hms g1)
      refine ⟨Γ, undef, _, .skip, hex _ ?_, .inr ⟨rfl, rfl⟩, .refl Γ, VR_un Γ, hR', hbel⟩
      have g2' : arr[j]? = some m' := by simpa using g2
      simp [Instr.mapUpdate, hX, run_underlying' hu, run_getObj hbk, MapKept.run_checkKey hk hkey, MapKept.run_findKey hk hfn, g2', g3, MapKept.run_keyThatStays hkey, MapKept.run_setObj_map _ hbk, Result.andThen]
theorem deleteB_ok (hR : Rel N Γ h w) (hf : FR nt Γ f a) {ts : Array TypeId} {ty : TypeId} {l : List Operand} (e : deleteB P ts l f h = .ok v h') :
    GivesV P N Γ w (Builtin.delete_ ts ty (l.map a.eval).toArray) v h' := by
  unfold deleteB at e
  split at e
  · rename_i kt el hme
    obtain ⟨m, k, rfl, e1⟩ := arg2_inv e ok_ne_no
    obtain ⟨t, ht, hme⟩ : ∃ t, ts[0]? = some t ∧ mapEl P t = some (kt, el) := by
      unfold mapEl0 at hme
      split at hme
      · rename_i t ht; exact ⟨t, ht, hme⟩
      · cases hme
    obtain ⟨kk, hu, hk⟩ := mapEl_inv hme
    have hm := opd_rel hR hf m
    have hkv := opd_rel hR hf k
    cases hom : opd m f with
    | nilm =>
      rw [hom] at e1 hm; simp only [VR] at hm
      obtain ⟨hki, e2⟩ := cond_inv (show cond (keyIs kt (opd k f)) (Ev.R.ok un h) .no = _ from e1) ok_ne_no
      obtain ⟨rfl, rfl⟩ := ok_inj e2
      refine GivesV.pure hR (val := .tuple #[]) ?_ (VR_un Γ)
      simp [Builtin.delete_, ht, hm, run_underlying' hu, MapKept.run_checkKey hk (keyIs_isKey hki hkv), Result.andThen]
    | map b =>
      rw [hom] at e1 hm; simp only [VR] at hm
      obtain ⟨c, hs, hX⟩ := hm
      obtain ⟨hb, e2⟩ := wr_inv (show wr b _ = _ from e1) ok_ne_no
      obtain ⟨es, clock, hob, e3⟩ := mapK'_inv e2 ok_ne_no
      obtain ⟨_, arr, hbk, hms⟩ := hR.mapAt hs hob
      obtain ⟨hki, y, hy, e4⟩ := findK_inv e3 ok_ne_no
      have hkey := keyIs_isKey hki hkv
      have hfm := findME_ok hkv hkey es arr.toList 0 y hms hy
      cases y with
      | none =>
        simp only at hfm
        obtain ⟨rfl, rfl⟩ := ok_inj (show Ev.R.ok _ _ = _ from e4)
        obtain ⟨hR', hbel⟩ := hR.setMap (arr' := arr) (clock' := clock) hs hb hob hms
        rw [← hob, setOb_obAt] at hR'
        refine ⟨Γ, .tuple #[], _, ?_, .refl Γ, VR_un Γ, hR', hbel⟩
        simp [Builtin.delete_, ht, hX, run_underlying' hu, run_getObj hbk, MapKept.run_checkKey hk hkey, MapKept.run_findKey hk hfm, MapKept.run_setObj_map _ hbk, Result.andThen]
      | some p =>
        obtain ⟨j, me⟩ := p
        simp only at hfm
        obtain ⟨j', m', hj, g1, g2, g3, g4, hval, hfn⟩ := hfm
        rw [Nat.zero_add] at hj; subst hj
        obtain ⟨rfl, rfl⟩ := ok_inj (show Ev.R.ok _ _ = _ from e4)
        have hlt : j < arr.size := by
          have := (List.getElem?_eq_some_iff.1 g2).1; simpa using this
        obtain ⟨hR', hbel⟩ := hR.setMap (arr' := arr.eraseIdxIfInBounds j) (clock' := clock) hs hb hob (by
          unfold Array.eraseIdxIfInBounds; rw [dif_pos hlt, Array.toList_eraseIdx]; exact MEs_erase es arr.toList j hms)
        refine ⟨Γ, .tuple #[], _, ?_, .refl Γ, VR_un Γ, hR', hbel⟩
        simp [Builtin.delete_, ht, hX, run_underlying' hu, run_getObj hbk, MapKept.run_checkKey hk hkey, MapKept.run_findKey hk hfn, MapKept.run_setObj_map _ hbk, Result.andThen]
    | _ => rw [hom] at e1; exact (no_ok (e := e1)).elim
  · exact (no_ok (e := e)).elim
end
end Go.Ev

/- type assertions. -/
namespace Go.Ev
open Go Go.RowKit

section
variable {P : Program} {N : Nat → Prop} {nt : Nat} {Γ : Ctx} {h h' : Hp} {w : World} {v : AV} {f : F} {a : Act} {o : Oper}

theorem asFin_ok {as : TypeId} {ok t : Bool} {x : AV} {X : Value} (hx : t = true → VR Γ x X) (e : asFin P as ok t x h = .ok v h') :
    h' = h ∧ ((t = true ∧ VR Γ v (if ok then .tuple #[X, .bool true] else X)) ∨ (t = false ∧ ok = true ∧ ∃ z, (∀ w, (zeroValue as).run P w = .ok z w) ∧ VR Γ v (.tuple #[z, .bool false]))) := by
  cases t
  · cases ok
    · exact (no_ok (e := e)).elim
    · unfold asFin at e
      rw [cond_false, cond_true] at e
      obtain ⟨z, l, hz, e2, _, hzv⟩ := zeroOf_all e ok_ne_no
      obtain ⟨rfl, rfl⟩ := ok_inj e2
      exact ⟨rfl, .inr ⟨rfl, rfl, z, hz, by simp [VR, VRs]; exact hzv Γ⟩⟩
  · cases ok
    · obtain ⟨rfl, rfl⟩ := ok_inj (show Ev.R.ok _ _ = _ from e)
      exact ⟨rfl, .inl ⟨rfl, hx rfl⟩⟩
    · obtain ⟨rfl, rfl⟩ := ok_inj (show Ev.R.ok _ _ = _ from e)
      exact ⟨rfl, .inl ⟨rfl, by simp [VR, VRs]; exact hx rfl⟩⟩
theorem exTypeAssert_ok {x : Operand} {s as : TypeId} {ok : Bool} (hR : Rel N Γ h w) (hf : FR nt Γ f a) (ho : o.op = .typeAssert x s as ok) (e : exTypeAssert P x s as ok f h = .ok v h') : Gives P N Γ w (execOp a.eval o) v h' := by
  have hx := opd_rel hR hf x
  have key : ∀ val, h' = h → VR Γ v val → (Instr.typeAssert (a.eval x) s as ok).run P w = .ok val w → Gives P N Γ w (execOp a.eval o) v h' := by
    intro val hh hv hr
    subst hh
    exact Gives.pure hR (val := val) (by simp [execOp, ho, hr]) hv
  unfold exTypeAssert at e
  split at e
  · rename_i want hu
    cases hox : opd x f with
    | nili =>
      rw [hox] at e hx; simp only [VR] at hx
      obtain ⟨hh, ⟨ht, _⟩ | ⟨_, rfl, z, hz, hv⟩⟩ := asFin_ok (X := undef) (fun h => by cases h) (show asFin P as ok false un h = _ from e)
      · cases ht
      · exact key _ hh hv (by simp [Instr.typeAssert, hx, run_underlying' hu, hz])
    | ifc t y =>
      rw [hox] at e; rw [hox] at hx
      have hx0 := hx
      simp only [VR] at hx
      obtain ⟨u, hX, hy⟩ := hx
      have e : asIfc P as want ok t y h = _ := e
      unfold asIfc at e
      split at e
      · rename_i i hi
        obtain ⟨hh, ⟨ht, hv⟩ | ⟨ht, rfl, z, hz, hv⟩⟩ := asFin_ok (X := a.eval x) (fun _ => hx0) e
        · refine key _ hh hv ?_
          have : Instr.missingMethod want i.methods = none := by simpa using ht
          rw [hX]
          simp [Instr.typeAssert, run_underlying' hu, run_typeInfo hi, this]
        · refine key _ hh hv ?_
          obtain ⟨m, hm⟩ : ∃ m, Instr.missingMethod want i.methods = some m := by
            cases hmm : Instr.missingMethod want i.methods with
            | none => rw [hmm] at ht; cases ht
            | some m => exact ⟨m, rfl⟩
          rw [hX]
          simp [Instr.typeAssert, run_underlying' hu, run_typeInfo hi, hm, hz]
      · exact (no_ok (e := e)).elim
    | _ => rw [hox] at e; exact (no_ok (e := e)).elim
  · rename_i d hni hu
    cases hox : opd x f with
    | nili =>
      rw [hox] at e hx; simp only [VR] at hx
      obtain ⟨hh, ⟨ht, _⟩ | ⟨_, rfl, z, hz, hv⟩⟩ := asFin_ok (X := undef) (fun h => by cases h) (show asFin P as ok false un h = _ from e)
      · cases ht
      · refine key _ hh hv ?_
        rw [hx]
        cases d <;> first | (exact absurd rfl (hni _)) | (simp [Instr.typeAssert, run_underlying' hu, hz])
    | ifc t y =>
      rw [hox] at e hx; simp only [VR] at hx
      obtain ⟨u, hX, hy⟩ := hx
      obtain ⟨hh, ⟨ht, hv⟩ | ⟨ht, rfl, z, hz, hv⟩⟩ := asFin_ok (X := u) (fun _ => hy) (show asFin P as ok (Nat.beq t as) y h = _ from e)
      · refine key _ hh hv ?_
        have := Nat.eq_of_beq_eq_true ht
        subst this
        rw [hX]
        cases d <;> first | (exact absurd rfl (hni _)) | (simp [Instr.typeAssert, run_underlying' hu])
      · refine key _ hh hv ?_
        have : t ≠ as := fun hh => by rw [hh, Nat.beq_refl] at ht; cases ht
        rw [hX]
        cases d <;> first | (exact absurd rfl (hni _)) | (simp [Instr.typeAssert, run_underlying' hu, this, hz])
    | _ => rw [hox] at e; exact (no_ok (e := e)).elim
  · exact (no_ok (e := e)).elim
end
end Go.Ev

/- conversions. -/
namespace Go.Ev
open Go Go.RowKit

section
variable {P : Program} {N : Nat → Prop} {nt : Nat} {Γ : Ctx} {h h' : Hp} {w : World} {v : AV} {f : F} {a : Act} {o : Oper}

theorem run_mark {d q : Nat} {arr : Array Value} {el : TypeId} {fz : Nat × Nat} (hd : w.heap[d]? = some (.cells arr el fz)) : (markStringish ⟨d, q, none⟩).run P w = .ok () (w.freeze ⟨d, arr.size, none⟩ 1) := by
  simp [markStringish, shape, freeze, Sem.run, World.shape?, hd]
theorem freeze_same {d : Nat} {arr : Array Value} {el : TypeId} {fz : Nat × Nat} (hd : w.heap[d]? = some (.cells arr el fz)) (hfz : fz = (0, 0) ∨ fz = (arr.size, arr.size + 1)) :
    (w.freeze ⟨d, arr.size, none⟩ 1).heap[d]? = some (.cells arr el (arr.size, arr.size + 1)) := by
  rcases hfz with rfl | rfl <;> simp [World.freeze, Array.getElem?_modify, hd]
theorem freeze_other {d c n : Nat} (hc : c ≠ d) : (w.freeze ⟨d, n, none⟩ 1).heap[c]? = w.heap[c]? := by
  simp [World.freeze, Array.getElem?_modify, Ne.symm hc]
theorem freeze_size {d n : Nat} : (w.freeze ⟨d, n, none⟩ 1).heap.size = w.heap.size := by simp [World.freeze]
theorem Rel.mark (hR : Rel N Γ h w) {b d q m x : Nat} {p : Nat} (hs : Γ.σ b = some (d, q)) (hb : gN ≤ b) (ho : obAt b h = .bytes m x) :
    ∃ w', (markStringish ⟨d, p, none⟩).run P w = .ok () w' ∧ Rel N Γ h w' ∧ Below N w w' := by
  obtain ⟨obj, h1, h2⟩ := hR.live b d q hs
  rw [ho] at h2
  obtain ⟨hx, arr, el, fz, rfl, hfz, hsz, hc⟩ := h2
  have hsame := freeze_same h1 hfz
  refine ⟨_, run_mark h1, ?_, ?_⟩
  · have := hR.set (ob := .bytes m x) hs (by rw [ho]; simp) (obj := .cells arr el (arr.size, arr.size + 1)) ⟨hx, arr, el, _, rfl, .inr rfl, hsz, hc⟩ (fun a' e' f' h => by cases h; exact hR.szs d arr el fz (Γ.wf _ _ _ hs) h1) (freeze_size (w := w) (d := d) (n := arr.size)) hsame (fun c hc => freeze_other hc) (fun t ht => by cases ht)
    rwa [← ho, setOb_obAt] at this
  · refine ⟨rfl, rfl, rfl, by rw [freeze_size]; exact Nat.le_refl _, fun k hk => freeze_other ?_⟩
    exact fun e => hR.own b d q hs hb (e ▸ hk)
end
end Go.Ev

/- conversions, whole. -/
namespace Go.Ev
open Go Go.RowKit

section
variable {P : Program} {N : Nat → Prop} {nt : Nat} {Γ : Ctx} {h h' : Hp} {w : World} {v : AV} {f : F} {a : Act} {o : Oper}

theorem foldl_push : ∀ (l : List UInt8) (acc : ByteArray), (l.map fun b => (b.toNat : Int)).foldl (fun r n => r.push (UInt8.ofNat n.toNat)) acc = ⟨acc.data ++ l.toArray⟩ := by
  intro l
  induction l with
  | nil => intro acc; cases acc; simp
  | cons b l ih =>
    intro acc
    rw [List.map_cons, List.foldl_cons, ih]
    simp [ByteArray.push]
theorem us_bytes {us : List Value} {n x : Nat} (hl : us.length = n) (hu : ∀ i, i < n → us[i]? = some (.int .u8 (Int.ofNat (byteAt x i)))) : us = ((bl n x).map fun b => (b.toNat : Int)).map (Value.int .u8) := by
  apply List.ext_getElem?
  intro i
  by_cases hi : i < n
  · rw [hu i hi, List.getElem?_map, List.getElem?_map, bl_get _ _ _ hi]
    have := byteAt_lt x i
    simp [Nat.mod_eq_of_lt this]
  · rw [List.getElem?_eq_none (by omega), List.getElem?_eq_none (by simp [bl_length]; omega)]
theorem convI_ok {k : IntKind} {x : AV} {X : Value} (hx : VR Γ x X) (e : convI k x h = .ok v h') : h' = h ∧ ((∃ j z, X = .int j z ∧ v = .int k (k.wrap z)) ∨ (∃ s b n, X = .float s b ∧ (s.decode b).toInt .zero = some n ∧ (k.min ≤ n ∧ n ≤ k.max) ∧ v = .int k n)) := by
  cases x with
  | int j z =>
    simp only [VR] at hx
    cases z with
    | ofNat n =>
      obtain ⟨rfl, rfl⟩ := fit_wrap (k := k) (z := Int.ofNat n) rfl (fun e => okI_ok e) (show fitN k n h _ = _ from e)
      exact ⟨rfl, .inl ⟨j, _, hx, rfl⟩⟩
    | negSucc n =>
      obtain ⟨rfl, rfl⟩ := okI_ok (show okI _ _ _ = _ from e)
      exact ⟨rfl, .inl ⟨j, _, hx, rfl⟩⟩
  | flt s b =>
    simp only [VR] at hx
    have e : (match (s.decode b).toInt .zero with | some n => if k.min ≤ n ∧ n ≤ k.max then okI k n h else .no | none => .no) = Ev.R.ok v h' := e
    split at e
    · rename_i n hn
      split at e
      · rename_i hr
        obtain ⟨rfl, rfl⟩ := okI_ok e
        exact ⟨rfl, .inr ⟨s, b, n, hx, hn, hr, rfl⟩⟩
      · exact (no_ok (e := e)).elim
    · exact (no_ok (e := e)).elim
  | _ => exact (no_ok (e := e)).elim
theorem cvOf_int {src dst : TypeId} {k : IntKind} (hc : cvOf P src dst = .int k) : ∃ d, P.underlying src = some d ∧ P.underlying dst = some (.int k) := by
  unfold cvOf at hc
  split at hc <;> first | (cases hc; rename_i h1 h2; exact ⟨_, h1, h2⟩) | (split at hc <;> first | cases hc | (split at hc <;> cases hc)) | cases hc
theorem cvOf_flt {src dst : TypeId} {k : FloatKind} (hc : cvOf P src dst = .flt k) : ∃ d, P.underlying src = some d ∧ P.underlying dst = some (.float k) := by
  unfold cvOf at hc
  split at hc <;> first | (cases hc; rename_i h1 h2; exact ⟨_, h1, h2⟩) | (split at hc <;> first | cases hc | (split at hc <;> cases hc)) | cases hc
theorem cvOf_str {src dst : TypeId} (hc : cvOf P src dst = .str) : ∃ d, P.underlying src = some d ∧ P.underlying dst = some .string := by
  unfold cvOf at hc
  split at hc <;> first | (cases hc; rename_i h1 h2; exact ⟨_, h1, h2⟩) | (split at hc <;> first | cases hc | (split at hc <;> cases hc)) | cases hc
theorem cvOf_strB {src dst : TypeId} (hc : cvOf P src dst = .strB) : ∃ e, P.underlying src = some (.slice e) ∧ P.underlying dst = some .string ∧ P.underlying e = some (.int .u8) := by
  unfold cvOf at hc
  split at hc <;> first | cases hc | (rename_i h1 h2; split at hc <;> first | (rename_i h3; exact ⟨_, h1, h2, h3⟩) | cases hc | (split at hc <;> cases hc))
theorem cvOf_bytesS {src dst el : TypeId} (hc : cvOf P src dst = .bytesS el) : P.underlying src = some .string ∧ P.underlying dst = some (.slice el) ∧ P.underlying el = some (.int .u8) := by
  unfold cvOf at hc
  split at hc <;> first | cases hc | (rename_i h1 h2; split at hc <;> first | (rename_i h3; cases hc; exact ⟨h1, h2, h3⟩) | cases hc | (split at hc <;> cases hc))
theorem cvOf_same {src dst : TypeId} (hc : cvOf P src dst = .same) : src = dst ∧ ∃ e, P.underlying src = some (.slice e) ∧ P.underlying e = some (.int .u8) := by
  unfold cvOf at hc
  split at hc <;> first | cases hc | (rename_i h1 h2; split at hc <;> first | cases hc | (rename_i h3; split at hc <;> first | (rename_i h4; subst h4; exact ⟨rfl, _, h2, h3⟩) | cases hc))
end
end Go.Ev

/- conversions: the operation. -/
namespace Go.Ev
open Go Go.RowKit

section
variable {P : Program} {N : Nat → Prop} {nt : Nat} {Γ : Ctx} {h h' : Hp} {w : World} {v : AV} {f : F} {a : Act} {o : Oper}

theorem Gives_of_V {s : Sem Value} {t : Sem Next} (hg : GivesV P N Γ w s v h') (ht : ∀ val w', s.run P w = .ok val w' → t.run P w = .ok (.value val) w') : Gives P N Γ w t v h' := by
  obtain ⟨Δ, val, w', hr, hle, hv, hR, hb⟩ := hg
  exact ⟨Δ, val, w', _, ht val w' hr, .inl rfl, hle, hv, hR, hb⟩
theorem bytesToString_ok (hR : Rel N Γ h w) {x : AV} {X : Value} (hx : VR Γ x X) (e : isSl x (lenK x .no fun n => firstK h 1 n x fun r => r.packK .no fun m y => strR m y h) = .ok v h') : GivesV P N Γ w (Conv.bytesToString X) v h' := by
  have hsl : ∃ base n cap, X = .slice base n cap ∧ (base = none → n = 0) ∧ (lenK x .no fun n => firstK h 1 n x fun r => r.packK .no fun m y => strR m y h) = .ok v h' := by
    cases x with
    | slc b q n c es ex => simp only [VR] at hx; obtain ⟨d, q', cap, _, hX, _⟩ := hx; exact ⟨_, _, _, hX, (fun hh => by cases hh), e⟩
    | nils => simp only [VR] at hx; exact ⟨_, _, _, hx, fun _ => rfl, e⟩
    | slx n => simp only [VR] at hx; obtain ⟨d, cap, hX, _⟩ := hx; exact ⟨_, _, _, hX, (fun hh => by cases hh), e⟩
    | _ => exact (no_ok (e := e)).elim
  obtain ⟨base, n, cap, rfl, hb0, e1⟩ := hsl
  obtain ⟨n', e2, hlen, _⟩ := lenK_ok (P := P) (w := w) e1 ok_ne_no hx
  simp [Builtin.lenOf] at hlen
  subst hlen
  obtain ⟨rs, us, e3, hrs, hl, hrun, _⟩ := firstK_ok (P := P) hR hx (.inl ⟨_, _, _, rfl⟩) e2 ok_ne_no
  obtain ⟨m, y, e4, h1, h2, h3⟩ := Rw.packK_inv hrs e3 ok_ne_no
  obtain ⟨rfl, rfl⟩ := strR_ok e4
  rw [Nat.mul_one] at hl
  refine GivesV.pure hR (val := .string (bstr m y)) ?_ (by simp only [VR]; exact ⟨trivial, h2⟩)
  have hus := us_bytes h1 h3
  cases base with
  | none =>
    have := hb0 rfl
    subst this
    have : m = 0 := by omega
    subst this
    simp [Conv.bytesToString, bstr, bl]; rfl
  | some ad =>
    have hr := hrun w rfl
    have hr : (loadCells ad (n * 1)).run P w = .ok us.toArray w := hr
    rw [Nat.mul_one, hus] at hr
    rw [run_bytesToString w ad n cap _ hr, foldl_push]
    simp [bstr]
end
end Go.Ev

/- conversions: string to bytes; the operation. -/
namespace Go.Ev
open Go Go.RowKit

section
variable {P : Program} {N : Nat → Prop} {nt : Nat} {Γ : Ctx} {h h' : Hp} {w : World} {v : AV} {f : F} {a : Act} {o : Oper}

theorem stringToBytes_ok (hR : Rel N Γ h w) {n s : Nat} {el : TypeId} (hs : s < 256 ^ n) (e : newR (.bytes n s) h (fun i h => .ok (.slc i 0 n n 1 false) h) = .ok v h') : GivesV P N Γ w (Conv.stringToBytes el (bstr n s)) v h' := by
  obtain ⟨hn, e3⟩ := newR_inv e ok_ne_no
  obtain ⟨rfl, rfl⟩ := ok_inj e3
  have hcap : n ≤ (Question.appendCap n 0 el).cut (w.tape w.drawn (.appendCap n 0 el)) := by simp [Question.cut]
  generalize hc : (Question.appendCap n 0 el).cut (w.tape w.drawn (.appendCap n 0 el)) = cap at hcap
  let us : List Value := ((bl n s).map fun b => Value.int .u8 b.toNat) ++ List.replicate (cap - n) (.int .u8 0)
  have hul : us.length = cap := by simp [us, bl_length]; omega
  have hob : ∀ Δ, Γ.Le Δ → ObFor Δ us (.bytes n s) := by
    intro Δ _ el
    refine ⟨hs, _, el, _, rfl, .inl rfl, by simp [hul]; exact hcap, fun i hi => ?_⟩
    simp only [Nat.zero_add, List.getElem?_toArray, us]
    rw [List.getElem?_append_left (by simp [bl_length]; exact hi), List.getElem?_map, bl_get _ _ _ hi]
    have := byteAt_lt s i
    simp [Nat.mod_eq_of_lt this]
  obtain ⟨Δ, hle, hσ, hsz, hrow, hR', hbel⟩ := newRow_ok (P := P) hR.drew hn hob el
  obtain ⟨w', hm, hR2, hb2⟩ := hR'.mark (P := P) (p := 0) hσ (by exact hR.gn) (by rw [obAt_setT_same])
  refine ⟨Δ, .slice (some ⟨w.heap.size, 0, none⟩) n cap, w', ?_, hle, ?_, hR2, ((Below.refl N w).drew.trans hbel).trans hb2⟩
  · have hel : (bstr n s).data.map (fun b => Value.int .u8 b.toNat) ++ Array.replicate (cap - n) (.int .u8 0) = us.toArray := by simp [us, bstr]
    have hch : (choose (.appendCap n 0 el)).run P w = .ok cap w.drew := by simp [choose, Sem.run, hc, Question.forced]
    simp only [Conv.stringToBytes, Sem.run_bind, bstr_size, hch, Result.andThen_ok, hel, hrow, hm, Sem.run_pure]
    rfl
  · simp only [VR]
    exact ⟨_, 0, cap, hσ, by simp, hcap, (fun hh => by cases hh), fun _ => ⟨hcap, by rw [hsz, hul]; omega⟩⟩
end
end Go.Ev

/- conversions: the operation. -/
namespace Go.Ev
open Go Go.RowKit

section
variable {P : Program} {N : Nat → Prop} {nt : Nat} {Γ : Ctx} {h h' : Hp} {w : World} {v : AV} {f : F} {a : Act} {o : Oper}

theorem exConv_ok {src dst : TypeId} {x : Operand} (hR : Rel N Γ h w) (hf : FR nt Γ f a) (ho : o.op = .convert src dst x) (e : exConv P src dst x f h = .ok v h') : Gives P N Γ w (execOp a.eval o) v h' := by
  have hx := opd_rel hR hf x
  suffices hg : GivesV P N Γ w (convert src dst (a.eval x)) v h' from Gives_of_V hg (fun val w' hr => by simp [execOp, ho, hr])
  unfold exConv at e
  cases hc : cvOf P src dst with
  | int k =>
    rw [hc] at e
    obtain ⟨d, h1, h2⟩ := cvOf_int hc
    obtain ⟨rfl, ⟨j, z, hX, rfl⟩ | ⟨s, b, n, hX, hn, hr, rfl⟩⟩ := convI_ok hx e
    · refine GivesV.pure hR (val := .int k (k.wrap z)) ?_ (by simp [VR])
      rw [hX]; cases d <;> simp [convert, run_underlying' h1, run_underlying' h2, Conv.intToInt]
    · refine GivesV.pure hR (val := .int k n) ?_ (by simp [VR])
      rw [hX]; cases d <;> simp [convert, run_underlying' h1, run_underlying' h2, Conv.floatToInt, hn, hr]
  | flt k =>
    rw [hc] at e
    obtain ⟨d, h1, h2⟩ := cvOf_flt hc
    obtain ⟨j, z, hox, e2⟩ := AV.intK_inv e ok_ne_no
    obtain ⟨rfl, rfl⟩ := ok_inj e2
    rw [hox] at hx; simp only [VR] at hx
    refine GivesV.pure hR (val := .float k (k.nearest z)) ?_ (by simp [VR])
    rw [hx]; cases d <;> simp [convert, run_underlying' h1, run_underlying' h2, Conv.intToFloat]
  | str =>
    rw [hc] at e
    obtain ⟨d, h1, h2⟩ := cvOf_str hc
    cases hox : opd x f with
    | int j z =>
      rw [hox] at e hx; simp only [VR] at hx
      obtain ⟨rfl, rfl⟩ := ok_inj (show Ev.R.ok _ _ = _ from e)
      refine GivesV.pure hR (val := .string (Utf8.encode z)) ?_ (by simp only [packS, VR]; exact ⟨by simp only [bstr, packB_bl], packB_lt _⟩)
      rw [hx]; cases d <;> simp [convert, run_underlying' h1, run_underlying' h2, Conv.intToString]
    | str n s =>
      rw [hox] at e hx
      obtain ⟨rfl, rfl⟩ := ok_inj (show Ev.R.ok _ _ = _ from e)
      refine GivesV.pure hR (val := a.eval x) ?_ hx
      simp only [VR] at hx
      rw [hx.1]; cases d <;> simp [convert, run_underlying' h1, run_underlying' h2]
    | _ => rw [hox] at e; exact (no_ok (e := e)).elim
  | strB =>
    rw [hc] at e
    obtain ⟨el, h1, h2, h3⟩ := cvOf_strB hc
    have hg := bytesToString_ok (P := P) hR hx e
    obtain ⟨base, n, cap, hX⟩ : ∃ base n cap, a.eval x = .slice base n cap := by
      cases hox : opd x f with
      | slc b q n c es ex => rw [hox] at hx; simp only [VR] at hx; obtain ⟨d, q', cap, _, hX, _⟩ := hx; exact ⟨_, _, _, hX⟩
      | nils => rw [hox] at hx; simp only [VR] at hx; exact ⟨_, _, _, hx⟩
      | slx n => rw [hox] at hx; simp only [VR] at hx; obtain ⟨d, cap, hX, _⟩ := hx; exact ⟨_, _, _, hX⟩
      | _ => rw [hox] at e; exact (no_ok (e := e)).elim
    obtain ⟨Δ, val, w', hr, rest⟩ := hg
    refine ⟨Δ, val, w', ?_, rest⟩
    rw [hX] at hr ⊢
    simp [convert, run_underlying' h1, run_underlying' h2, run_underlying' h3, hr]
  | bytesS el =>
    rw [hc] at e
    obtain ⟨h1, h2, h3⟩ := cvOf_bytesS hc
    obtain ⟨n, s, hox, e2⟩ := AV.strK_inv e ok_ne_no
    rw [hox] at hx; simp only [VR] at hx
    obtain ⟨Δ, val, w', hr, rest⟩ := stringToBytes_ok (P := P) (el := el) hR hx.2 e2
    refine ⟨Δ, val, w', ?_, rest⟩
    rw [hx.1]
    simp [convert, run_underlying' h1, run_underlying' h2, run_underlying' h3, hr]
  | same =>
    rw [hc] at e
    obtain ⟨rfl, el, h1, h3⟩ := cvOf_same hc
    obtain ⟨b, q, n, c, es, ex, hox, e2⟩ := AV.slcK_inv e ok_ne_no
    obtain ⟨hb, e3⟩ := wr_inv e2 ok_ne_no
    obtain ⟨hby, e4⟩ := cond_inv e3 ok_ne_no
    obtain ⟨rfl, rfl⟩ := ok_inj e4
    rw [hox] at hx
    have hx0 := hx
    simp only [VR] at hx
    obtain ⟨d, q', cap, hs, hX, _⟩ := hx
    cases hob : obAt b h with
    | bytes m y =>
      obtain ⟨w', hm, hR', hbel⟩ := hR.mark (P := P) (p := q' + q) hs hb hob
      refine ⟨Γ, a.eval x, w', ?_, .refl Γ, hx0, hR', hbel⟩
      rw [hX]
      simp [convert, run_underlying' h1, run_underlying' h3, hm]
    | _ => rw [hob] at hby; cases hby
  | bad => rw [hc] at e; exact (no_ok (e := e)).elim
end
end Go.Ev

/- clear of maps, ranges. -/
namespace Go.Ev
open Go Go.RowKit

section
variable {P : Program} {N : Nat → Prop} {nt : Nat} {Γ : Ctx} {h h' : Hp} {w : World} {v : AV} {f : F} {a : Act} {o : Oper}

/-- a new object that is no row -/
theorem newObj_ok (hR : Rel N Γ h w) {ob : Ob} {obj : Obj} (hn : h.n < 83521) (hno : ∀ arr el fz, obj ≠ .cells arr el fz) (hob : ∀ Δ, Γ.Le Δ → OR Δ 0 obj ob) :
    ∃ Δ, Γ.Le Δ ∧ Δ.σ h.n = some (w.heap.size, 0) ∧ (newObj obj).run P w = .ok w.heap.size { w with heap := w.heap.push obj } ∧ Rel N Δ ⟨setT h.n ob h.t, h.n + 1⟩ { w with heap := w.heap.push obj } ∧ Below N w { w with heap := w.heap.push obj } := by
  have hle := Γ.le_more (b := h.n) (c := w.heap.size) (q := 0) (s := 0) (Nat.le_of_eq hR.lim) (hR.none_at (Nat.le_refl _)) (Nat.le_of_eq hR.nb)
  exact ⟨_, hle, by simp [Ctx.more], rfl, hR.new hn (fun arr el fz h => absurd h (hno arr el fz)) (hob _ hle), below_push w _ hR.base⟩
end
end Go.Ev

/- ranges over maps. -/
namespace Go.Ev
open Go Go.RowKit

section
variable {P : Program} {N : Nat → Prop} {nt : Nat} {Γ : Ctx} {h h' : Hp} {w : World} {v : AV} {f : F} {a : Act} {o : Oper}

theorem exRange_ok {t : TypeId} {x : Operand} (hR : Rel N Γ h w) (hf : FR nt Γ f a) (ho : o.op = .range t x) (e : exRange P t x f h = .ok v h') : Gives P N Γ w (execOp a.eval o) v h' := by
  have hx := opd_rel hR hf x
  unfold exRange at e
  split at e
  · rename_i kt et hu
    cases hom : opd x f with
    | nilm =>
      rw [hom] at e hx; simp only [VR] at hx
      obtain ⟨hn, e1⟩ := newR_inv (k := fun i h => Ev.R.ok (.ptr i 0) h) (show ptrR (.miter none 0 [] 0) h = _ from e) ok_ne_no
      obtain ⟨rfl, rfl⟩ := ok_inj e1
      obtain ⟨Δ, hle, hs, hrun, hR', hb⟩ := newObj_ok (P := P) (ob := .miter none 0 [] 0) (obj := .mapIter none 0 #[] 0) hR hn (fun _ _ _ h => by cases h) (fun Δ _ => ⟨rfl, none, rfl, fun _ => rfl, fun b h => by cases h⟩)
      refine ⟨Δ, .pointer (some ⟨w.heap.size, 0, none⟩), _, _, ?_, .inl rfl, hle, ?_, hR', hb⟩
      · simp [execOp, ho, Instr.range, run_underlying' hu, hx, hrun]
      · simp only [VR]; exact ⟨_, _, hs, by simp⟩
    | map b =>
      rw [hom] at e hx; simp only [VR] at hx
      obtain ⟨c, hs0, hX⟩ := hx
      obtain ⟨es, clock, hob, e1⟩ := mapK'_inv (show mapK' b h _ = _ from e) ok_ne_no
      obtain ⟨_, arr, hbk, hms⟩ := hR.mapAt hs0 hob
      obtain ⟨hn, e2⟩ := newR_inv (k := fun i h => Ev.R.ok (.ptr i 0) h) (show ptrR (.miter (some b) clock [] clock) h = _ from e1) ok_ne_no
      obtain ⟨rfl, rfl⟩ := ok_inj e2
      obtain ⟨Δ, hle, hs, hrun, hR', hb⟩ := newObj_ok (P := P) (ob := .miter (some b) clock [] clock) (obj := .mapIter (some c) clock #[] clock) hR hn (fun _ _ _ h => by cases h) (fun Δ hle => ⟨rfl, some c, rfl, (fun h => by cases h), fun b' h => by cases h; exact ⟨c, rfl, hle.σ _ _ hs0⟩⟩)
      refine ⟨Δ, .pointer (some ⟨w.heap.size, 0, none⟩), _, _, ?_, .inl rfl, hle, ?_, hR', hb⟩
      · simp [execOp, ho, Instr.range, run_underlying' hu, hX, run_getObj hbk, hrun]
      · simp only [VR]; exact ⟨_, _, hs, by simp⟩
    | _ => rw [hom] at e; exact (no_ok (e := e)).elim
  · rename_i hu
    obtain ⟨n, s, hom, e1⟩ := AV.strK_inv e ok_ne_no
    rw [hom] at hx; simp only [VR] at hx
    obtain ⟨hX, hlt⟩ := hx
    obtain ⟨hn, e2⟩ := newR_inv (k := fun i h => Ev.R.ok (.ptr i 0) h) (show ptrR (.siter n s 0) h = _ from e1) ok_ne_no
    obtain ⟨rfl, rfl⟩ := ok_inj e2
    obtain ⟨Δ, hle, hs, hrun, hR', hb⟩ := newObj_ok (P := P) (ob := .siter n s 0) (obj := .stringIter (bstr n s) 0) hR hn (fun _ _ _ h => by cases h) (fun Δ _ => ⟨rfl, rfl, hlt⟩)
    refine ⟨Δ, .pointer (some ⟨w.heap.size, 0, none⟩), _, _, ?_, .inl rfl, hle, ?_, hR', hb⟩
    · simp [execOp, ho, Instr.range, run_underlying' hu, hX, hrun]
    · simp only [VR]; exact ⟨_, _, hs, by simp⟩
  · exact (no_ok (e := e)).elim

theorem run_getIter {c : Nat} {m : Option Nat} {s l : Nat} {seen : Array Nat} (h : w.heap[c]? = some (.mapIter m s seen l)) : (getObj c).run P w = .ok (.mapIter m s seen l) w := by simp [getObj, Sem.run, h]
theorem run_setIter {c : Nat} {ob : Obj} {m : Option Nat} {s l : Nat} {seen : Array Nat} (h : w.heap[c]? = some (.mapIter m s seen l)) (hn : ∀ arr el fz, ob ≠ .cells arr el fz) : (setObj c ob).run P w = .ok () { w with heap := w.heap.setIfInBounds c ob } := by
  simp [setObj, Sem.run, h]

theorem MEs_filter (p : Nat → Bool) : ∀ (es : List ME) (ms : List MapEntry), MEs Γ es ms → MEs Γ (es.filter fun e => p e.born) (ms.filter fun m => p m.born) := by
  intro es
  induction es with
  | nil => intro ms hm; simp only [MEs] at hm; subst hm; simp [MEs]
  | cons e r ih =>
    intro ms hm
    simp only [MEs] at hm
    obtain ⟨m, s, rfl, h1, h2, h3, h4⟩ := hm
    simp only [List.filter_cons, h3]
    cases p e.born
    · exact ih s h4
    · simp only [if_true, MEs]; exact ⟨m, _, rfl, h1, h2, h3, ih s h4⟩
theorem MEs_all (p : Nat → Bool) : ∀ (es : List ME) (ms : List MapEntry), MEs Γ es ms → (ms.all fun m => p m.born) = es.all fun e => p e.born := by
  intro es
  induction es with
  | nil => intro ms hm; simp only [MEs] at hm; subst hm; rfl
  | cons e r ih =>
    intro ms hm
    simp only [MEs] at hm
    obtain ⟨m, s, rfl, h1, h2, h3, h4⟩ := hm
    simp only [List.all_cons, h3, ih s h4]
theorem MEs_find (p : Nat → Bool) : ∀ (es : List ME) (ms : List MapEntry) (e : ME), MEs Γ es ms → es.find? (fun e => p e.born) = some e → ∃ m, ms.find? (fun m => p m.born) = some m ∧ VR Γ e.k m.key ∧ VR Γ e.v m.val := by
  intro es
  induction es with
  | nil => intro ms e hm hf; cases hf
  | cons x r ih =>
    intro ms e hm hf
    simp only [MEs] at hm
    obtain ⟨m, s, rfl, h1, h2, h3, h4⟩ := hm
    rw [List.find?_cons] at hf
    rw [List.find?_cons, h3]
    cases hp : p x.born
    · rw [hp] at hf; exact ih s e h4 hf
    · rw [hp] at hf; cases hf; exact ⟨m, rfl, h1, h2⟩
theorem Rel.iterAt (hR : Rel N Γ h w) {b c q : Nat} {m : Option Nat} {since last : Nat} {seen : List Nat} (hs : Γ.σ b = some (c, q)) (ho : obAt b h = .miter m since seen last) :
    q = 0 ∧ ∃ mc, w.heap[c]? = some (.mapIter mc since seen.toArray last) ∧ (m = none → mc = none) ∧ (∀ b, m = some b → ∃ c, mc = some c ∧ Γ.σ b = some (c, 0)) := by
  obtain ⟨obj, h1, h2⟩ := hR.live b c q hs
  rw [ho] at h2
  obtain ⟨hq, mc, rfl, h3, h4⟩ := h2
  exact ⟨hq, mc, h1, h3, h4⟩
theorem candidates_none {arr : Array MapEntry} {since : Nat} {p : MapEntry → Bool} (hl : arr.toList.filter p = []) :
    ((if ((arr.filter p).filter (·.born < since)).isEmpty then #[none] else #[]) ++ (((arr.filter p).filter (·.born < since)) ++ ((arr.filter p).filter (·.born ≥ since))).map some) = #[none] := by
  have : arr.filter p = #[] := by apply Array.ext'; rw [Array.toList_filter]; exact hl
  rw [this]; simp
theorem candidates_one {arr : Array MapEntry} {since : Nat} {p : MapEntry → Bool} {m : MapEntry} (hl : arr.toList.filter p = [m]) (hb : m.born < since) :
    ((if ((arr.filter p).filter (·.born < since)).isEmpty then #[none] else #[]) ++ (((arr.filter p).filter (·.born < since)) ++ ((arr.filter p).filter (·.born ≥ since))).map some) = #[some m] := by
  have : arr.filter p = #[m] := by apply Array.ext'; rw [Array.toList_filter]; exact hl
  rw [this]; simp [hb]
end
end Go.Ev

/- next, entry, clear. -/
namespace Go.Ev
open Go Go.RowKit

section
variable {P : Program} {N : Nat → Prop} {nt : Nat} {Γ : Ctx} {h h' : Hp} {w : World} {v : AV} {f : F} {a : Act} {o : Oper}

theorem bstr_get {n s i : Nat} (hi : i < n) : ((bstr n s).get! i).toNat = byteAt s i := by
  have h1 : i < (bstr n s).data.size := by show i < (bl n s).toArray.size; rw [List.size_toArray, bl_length]; exact hi
  have h2 := bl_get n s i hi
  rw [List.getElem?_eq_getElem (by rw [bl_length]; exact hi)] at h2
  have h3 : (bstr n s).get! i = UInt8.ofNat (byteAt s i) := by
    show (bstr n s).data[i]! = _
    rw [getElem!_pos _ i h1]
    exact Option.some.inj h2
  rw [h3]
  have := byteAt_lt s i
  simp [Nat.mod_eq_of_lt this]
theorem decode_ascii {n s i : Nat} (hi : i < n) (hb : byteAt s i ≤ 127) : Utf8.decode (bstr n s) i = (byteAt s i, 1) := by
  have hg := bstr_get (s := s) hi
  unfold Utf8.decode
  simp only [Nat.add_zero, hg]
  rw [if_pos (by omega)]
theorem run_getSIter {c n : Nat} {s : ByteArray} (h : w.heap[c]? = some (.stringIter s n)) : (getObj c).run P w = .ok (.stringIter s n) w := by simp [getObj, Sem.run, h]
theorem run_setSIter {c n : Nat} {s : ByteArray} {ob : Obj} (h : w.heap[c]? = some (.stringIter s n)) (hn : ∀ arr el fz, ob ≠ .cells arr el fz) : (setObj c ob).run P w = .ok () { w with heap := w.heap.setIfInBounds c ob } := by
  simp [setObj, Sem.run, h]
theorem nextS_ok {x : Operand} (hR : Rel N Γ h w) (hf : FR nt Γ f a) (ho : o.op = .next x true) (e : ((opd x f).ptrK Ev.R.no fun r o => cond (Nat.beq o 0) (nextS r h) Ev.R.no) = .ok v h') : Gives P N Γ w (execOp a.eval o) v h' := by
  have hx := opd_rel hR hf x
  obtain ⟨r, q0, hop, e1⟩ := AV.ptrK_inv e ok_ne_no
  rw [hop] at hx; simp only [VR] at hx
  obtain ⟨c, q, hs, hX⟩ := hx
  obtain ⟨rfl, e2⟩ := beq_inv e1 ok_ne_no
  unfold nextS at e2
  split at e2
  · rename_i n s pos hob
    obtain ⟨obj, hc, hor⟩ := hR.live r c q hs
    rw [hob] at hor
    obtain ⟨rfl, rfl, hlt⟩ := hor
    have hz : (bstr n s).size = n := bstr_size n s
    cases hp : Nat.ble (Nat.succ pos) n
    · rw [hp, cond_false] at e2
      obtain ⟨rfl, rfl⟩ := ok_inj (show Ev.R.ok _ _ = _ from e2)
      have hge : ¬ pos < n := fun hh => by rw [Nat.ble_eq_true_of_le hh] at hp; cases hp
      refine Gives.pure hR (val := .tuple #[.bool false]) ?_ (by simp [VR, VRs])
      simp [execOp, ho, Instr.next, hX, run_getSIter hc, hz, hge]
    · rw [hp, cond_true] at e2
      have hpn : pos < n := Nat.le_of_ble_eq_true hp
      obtain ⟨hb, e3⟩ := ble_inv e2 ok_ne_no
      obtain ⟨hw, e4⟩ := wr_inv e3 ok_ne_no
      rw [forceN_eq, forceN_eq] at e4
      obtain ⟨rfl, rfl⟩ := ok_inj e4
      have hset : Rel N Γ (setOb r (.siter n s (Nat.succ pos)) h) { w with heap := w.heap.setIfInBounds c (.stringIter (bstr n s) (pos + 1)) } := by
        obtain ⟨g1, g2⟩ := MapKept.heap_set (o' := .stringIter (bstr n s) (pos + 1)) hc
        exact hR.set hs (by rw [hob]; simp) ⟨rfl, rfl, hlt⟩ (fun _ _ _ h => by cases h) (by simp) g1 g2 (fun t ht => by cases ht)
      have hbel : Below N w { w with heap := w.heap.setIfInBounds c (.stringIter (bstr n s) (pos + 1)) } := by
        obtain ⟨g1, g2⟩ := MapKept.heap_set (o' := .stringIter (bstr n s) (pos + 1)) hc
        refine ⟨rfl, rfl, rfl, by simp, fun k hk => g2 k ?_⟩
        exact fun e => hR.own r c 0 hs hw (e ▸ hk)
      refine ⟨Γ, .tuple #[.bool true, .int .i64 pos, .int .i32 (byteAt s pos)], _, _, ?_, .inl rfl, .refl Γ, ?_, hset, hbel⟩
      · simp only [execOp, ho, Instr.next, hX]
        simp [run_getSIter hc, hz, hpn, decode_ascii hpn hb, run_setSIter hc, goInt]
      · simp [VR, VRs]
  · exact (no_ok (e := e2)).elim
theorem exNext_ok {x : Operand} {s : Bool} (hR : Rel N Γ h w) (hf : FR nt Γ f a) (ho : o.op = .next x s) (e : exNext x s f h = .ok v h') : Gives P N Γ w (execOp a.eval o) v h' := by
  have hx := opd_rel hR hf x
  unfold exNext at e
  cases s
  case true => rw [cond_true] at e; exact nextS_ok hR hf ho e
  rw [cond_false] at e
  obtain ⟨r, q0, hop, e1⟩ := AV.ptrK_inv e ok_ne_no
  rw [hop] at hx; simp only [VR] at hx
  obtain ⟨c, q, hs, hX⟩ := hx
  obtain ⟨rfl, e2⟩ := beq_inv e1 ok_ne_no
  unfold nextR at e2
  split at e2
  · rename_i since seen last hob
    obtain ⟨rfl, mc, hc, hm, _⟩ := hR.iterAt hs hob
    obtain ⟨rfl, rfl⟩ := ok_inj (show Ev.R.ok _ _ = _ from e2)
    have := hm rfl; subst this
    refine Gives.pure hR (val := .tuple #[.bool false]) ?_ (by simp [VR, VRs])
    simp [execOp, ho, Instr.next, hX, run_getIter hc]
  · rename_i m since seen last hob
    obtain ⟨rfl, mc, hc, _, hm⟩ := hR.iterAt hs hob
    obtain ⟨mb, rfl, hsm⟩ := hm m rfl
    obtain ⟨es, clock, hom, e3⟩ := mapK'_inv (show mapK' m h _ = _ from e2) ok_ne_no
    obtain ⟨_, arr, hbk, hms⟩ := hR.mapAt hsm hom
    have hg : goneB seen last es = false := by
      cases hh : goneB seen last es
      · rfl
      · rw [hh] at e3; exact (no_ok (e := e3)).elim
    rw [hg, cond_false] at e3
    have hgone : (!seen.toArray.isEmpty && !arr.isEmpty && arr.all (fun m => decide (m.born ≥ last))) = false := by
      rw [← hg]; unfold goneB
      have h1 : arr.isEmpty = es.isEmpty := by
        have := hms.length
        rw [← Array.isEmpty_toList]; cases hh : arr.toList <;> cases es <;> simp_all
      have h2 : (arr.all fun m => decide (m.born ≥ last)) = es.all fun e => Nat.ble last e.born := by
        rw [← Array.all_toList, MEs_all (fun b => decide (b ≥ last)) es arr.toList hms]
        congr 1; funext e; rw [Bool.eq_iff_iff]; simp [Nat.ble_eq]
      rw [h1, h2]; simp
    have hsn : (fun e : MapEntry => !seen.toArray.contains e.born) = fun e => !seen.contains e.born := by funext e; simp
    have hleft := MEs_filter (fun b => !seen.contains b) es arr.toList hms
    change MEs Γ (leftL seen es) _ at hleft
    cases hl : leftL seen es with
    | nil =>
      rw [hl] at e3 hleft
      simp only [MEs] at hleft
      obtain ⟨rfl, rfl⟩ := ok_inj (show Ev.R.ok _ _ = _ from e3)
      have hcand := candidates_none (since := since) hleft
      refine Gives.pure hR (val := .tuple #[.bool false]) ?_ (by simp [VR, VRs])
      have hch : (choose (.mapNext 1)).run P w = .ok 0 w := by simp [choose, Sem.run, Question.forced]
      simp only [execOp, ho, Instr.next, hX, Nat.add_zero, Sem.run_bind, run_getIter hc, run_getObj hbk, Result.andThen_ok, hgone, Bool.false_eq_true, if_false, hsn, hcand]
      simp [hch]
    | cons e0 r0 =>
      cases r0 with
      | cons _ _ => rw [hl] at e3; exact (no_ok (e := e3)).elim
      | nil =>
        rw [hl] at e3 hleft
        simp only [MEs] at hleft
        obtain ⟨me, s0, hmeq, hk, hv, hborn, rfl⟩ := hleft
        obtain ⟨hlt, e4⟩ := ble_inv (show cond (Nat.ble (Nat.succ e0.born) since) _ Ev.R.no = _ from e3) ok_ne_no
        obtain ⟨hb, e5⟩ := wr_inv e4 ok_ne_no
        obtain ⟨rfl, rfl⟩ := ok_inj e5
        have hcand := candidates_one (since := since) hmeq (by rw [hborn]; exact hlt)
        have hset : Rel N Γ (setOb r (.miter (some m) since (seen ++ [e0.born]) clock) h) { w with heap := w.heap.setIfInBounds c (.mapIter (some mb) since (seen ++ [e0.born]).toArray clock) } := by
          obtain ⟨g1, g2⟩ := MapKept.heap_set (o' := .mapIter (some mb) since (seen ++ [e0.born]).toArray clock) hc
          exact hR.set hs (by rw [hob]; simp) ⟨rfl, some mb, rfl, (fun h => by cases h), fun b' h => by cases h; exact ⟨mb, rfl, hsm⟩⟩ (fun _ _ _ h => by cases h) (by simp) g1 g2 (fun t ht => by cases ht)
        have hbel : Below N w { w with heap := w.heap.setIfInBounds c (.mapIter (some mb) since (seen ++ [e0.born]).toArray clock) } := by
          obtain ⟨g1, g2⟩ := MapKept.heap_set (o' := .mapIter (some mb) since (seen ++ [e0.born]).toArray clock) hc
          refine ⟨rfl, rfl, rfl, by simp, fun k hk => g2 k ?_⟩
          exact fun e => hR.own r c 0 hs hb (e ▸ hk)
        refine ⟨Γ, .tuple #[.bool true, me.key, me.val], _, _, ?_, .inl rfl, .refl Γ, ?_, hset, hbel⟩
        · have hch : (choose (.mapNext 1)).run P w = .ok 0 w := by simp [choose, Sem.run, Question.forced]
          simp only [execOp, ho, Instr.next, hX]
          simp only [Nat.add_zero, Sem.run_bind, run_getIter hc, run_getObj hbk, Result.andThen_ok, hgone, Bool.false_eq_true, if_false, hsn, hcand]
          simp [hch, run_setIter hc, hborn]
        · simp only [VR, VRs]
          exact ⟨_, rfl, _, _, rfl, rfl, _, _, rfl, hk, _, _, rfl, hv, rfl⟩
  · exact (no_ok (e := e2)).elim
end
end Go.Ev

/- entry, clear. -/
namespace Go.Ev
open Go Go.RowKit

section
variable {P : Program} {N : Nat → Prop} {nt : Nat} {Γ : Ctx} {h h' : Hp} {w : World} {v : AV} {f : F} {a : Act} {o : Oper}

theorem exEntry_ok {x : Operand} (hR : Rel N Γ h w) (hf : FR nt Γ f a) (ho : o.op = .entry x) (e : exEntry x f h = .ok v h') : Gives P N Γ w (execOp a.eval o) v h' := by
  have hx := opd_rel hR hf x
  obtain ⟨r, q0, hop, e1⟩ := AV.ptrK_inv (show (opd x f).ptrK Ev.R.no _ = _ from e) ok_ne_no
  rw [hop] at hx; simp only [VR] at hx
  obtain ⟨c, q, hs, hX⟩ := hx
  obtain ⟨rfl, e2⟩ := beq_inv e1 ok_ne_no
  unfold entryR at e2
  split at e2
  · rename_i m since seen stepped hob
    obtain ⟨rfl, mc, hc, _, hm⟩ := hR.iterAt hs hob
    obtain ⟨mb, rfl, hsm⟩ := hm m rfl
    split at e2
    · rename_i stamp hst
      obtain ⟨es, clock, hom, e3⟩ := mapK'_inv e2 ok_ne_no
      obtain ⟨_, arr, hbk, hms⟩ := hR.mapAt hsm hom
      obtain ⟨hcl, e4⟩ := beq_inv (show cond (Nat.beq clock stepped) _ Ev.R.no = _ from e3) ok_ne_no
      subst hcl
      unfold entryM at e4
      split at e4
      · rename_i me hfind
        obtain ⟨rfl, rfl⟩ := ok_inj e4
        obtain ⟨m', hf', hk, hv⟩ := MEs_find (fun b => Nat.beq b stamp) es arr.toList me hms hfind
        have hf2 : arr.find? (fun e => e.born == stamp) = some m' := by
          rw [← Array.find?_toList, ← hf']; congr 1; funext e; rw [Bool.eq_iff_iff]; simp
        refine Gives.pure hR (val := .tuple #[m'.key, m'.val]) ?_ (by simp only [VR, VRs]; exact ⟨_, rfl, _, _, rfl, hk, _, _, rfl, hv, rfl⟩)
        have hb : seen.toArray.back? = some stamp := by simpa [Array.back?, List.getLast?_eq_getElem?] using hst
        simp only [execOp, ho, Instr.entry, hX, Nat.add_zero, Sem.run_bind, run_getIter hc, hb, run_getObj hbk, Result.andThen_ok, hf2]
        simp
      · exact (no_ok (e := e4)).elim
    · exact (no_ok (e := e2)).elim
  · exact (no_ok (e := e2)).elim

theorem clearB_ok (hR : Rel N Γ h w) (hf : FR nt Γ f a) {ts : Array TypeId} {ty : TypeId} {l : List Operand} (e : clearB P ts l f h = .ok v h') :
    GivesV P N Γ w (Builtin.clear_ ts ty (l.map a.eval).toArray) v h' := by
  unfold clearB at e
  cases ht : ty0 P ts with
  | sl el =>
    rw [ht] at e
    obtain ⟨t, h0, hu, hi⟩ := ty0_sl ht
    obtain ⟨x, rfl, e1⟩ := arg0_inv e ok_ne_no
    have hx := opd_rel hR hf x
    unfold clearR at e1
    cases hox : opd x f with
    | slc b q n c es ex =>
      rw [hox] at e1 hx; simp only [VR] at hx
      obtain ⟨d, q', cap, hs, hX, hle, _⟩ := hx
      change cond (Nat.beq n 0) _ _ = _ at e1
      cases hn : Nat.beq n 0 <;> rw [hn] at e1
      · rw [cond_false] at e1
        have hn0 : n ≠ 0 := fun e => by rw [e] at hn; cases hn
        obtain ⟨z, zl, hz, e2, hzl, hzv⟩ := zeroOf_all (P := P) e1 ok_ne_no
        obtain ⟨hc1, e3⟩ := cond_inv e2 ok_ne_no
        rw [Bool.and_eq_true] at hc1
        have hes := Nat.eq_of_beq_eq_true hc1.1
        have hlen : z.cells.toList.length = szOf P el := by rw [← lenL_vals zl z.cells.toList (hzl Γ)]; exact Nat.eq_of_beq_eq_true hc1.2
        obtain ⟨hb, e4⟩ := wr_inv e3 ok_ne_no
        have hrw : RwR Γ (Bool.rec (.cs (repL n zl)) (.bs (Nat.mul n (szOf P el)) 0) (byteTy P el)) (rep n z.cells.toList) := by
          cases hbt : byteTy P el
          · exact repL_vals n (hzl Γ)
          · refine ⟨by rw [rep_length, hlen]; rfl, Nat.pow_pos (by omega), fun i hi => ?_⟩
            have hi' : i < n * z.cells.toList.length := by rw [hlen]; exact hi
            have hpos : 0 < z.cells.toList.length := by
              rcases Nat.eq_zero_or_pos z.cells.toList.length with h | h
              · rw [h] at hi'; omega
              · exact h
            rw [rep_get _ _ _ hi', byteTy_zero hbt hzv _ (Nat.mod_lt _ hpos)]
            rw [byteAt_eq]; simp
        obtain ⟨l', ob', hp, e5, hl'⟩ := putRow_ok hR hs hrw e4 ok_ne_no
        obtain ⟨rfl, rfl⟩ := ok_inj e5
        obtain ⟨w', hst, hR', hbel⟩ := storeCells_ok (P := P) hs hb l' _ h w q (q' + q) 0 ob' hR hp hl' (by omega)
        have hzc : (Builtin.zeroCells z.cells n).toList = rep n z.cells.toList := by
          have := range_mod n z.cells.toList
          simpa [Builtin.zeroCells] using this
        refine ⟨Γ, .tuple #[], w', ?_, .refl Γ, VR_un Γ, hR', hbel⟩
        obtain ⟨m, rfl⟩ : ∃ m, n = m + 1 := ⟨n - 1, by omega⟩
        simp [Builtin.clear_, h0, hX, run_underlying' hu, hz, hzc, hst]
      · rw [cond_true] at e1
        have hn0 := Nat.eq_of_beq_eq_true hn; subst hn0
        obtain ⟨rfl, rfl⟩ := ok_inj e1
        refine GivesV.pure hR (val := .tuple #[]) ?_ (VR_un Γ)
        simp [Builtin.clear_, h0, hX, run_underlying' hu]
    | nils =>
      rw [hox] at e1 hx; simp only [VR] at hx
      obtain ⟨rfl, rfl⟩ := ok_inj (show Ev.R.ok _ _ = _ from e1)
      refine GivesV.pure hR (val := .tuple #[]) ?_ (VR_un Γ)
      simp [Builtin.clear_, h0, hx, run_underlying' hu]
    | slx n =>
      rw [hox] at e1 hx; simp only [VR] at hx
      obtain ⟨d, cap, hX, _⟩ := hx
      obtain ⟨hn0, e2⟩ := beq_inv (show cond (Nat.beq n 0) _ Ev.R.no = _ from e1) ok_ne_no
      subst hn0
      obtain ⟨rfl, rfl⟩ := ok_inj e2
      refine GivesV.pure hR (val := .tuple #[]) ?_ (VR_un Γ)
      simp [Builtin.clear_, h0, hX, run_underlying' hu]
    | _ => rw [hox] at e1; exact (no_ok (e := e1)).elim
  | bad =>
    rw [ht] at e
    obtain ⟨hm, e0⟩ := cond_inv (show cond (isMapTs P ts) _ Ev.R.no = _ from e) ok_ne_no
    obtain ⟨t, kt, et, h0, hu⟩ : ∃ t kt et, ts[0]? = some t ∧ P.underlying t = some (.map kt et) := by
      unfold isMapTs at hm
      split at hm
      · rename_i t h0
        split at hm
        · rename_i kt et hu; exact ⟨t, kt, et, h0, hu⟩
        · cases hm
      · cases hm
    obtain ⟨x, rfl, e1⟩ := arg0_inv e0 ok_ne_no
    have hx := opd_rel hR hf x
    unfold clearM at e1
    cases hox : opd x f with
    | nilm =>
      rw [hox] at e1 hx; simp only [VR] at hx
      obtain ⟨rfl, rfl⟩ := ok_inj (show Ev.R.ok _ _ = _ from e1)
      refine GivesV.pure hR (val := .tuple #[]) ?_ (VR_un Γ)
      simp [Builtin.clear_, h0, hx, run_underlying' hu]
    | map b =>
      rw [hox] at e1 hx; simp only [VR] at hx
      obtain ⟨c, hs, hX⟩ := hx
      obtain ⟨hb, e2⟩ := wr_inv (show wr b _ = _ from e1) ok_ne_no
      obtain ⟨es, clock, hom, e3⟩ := mapK'_inv e2 ok_ne_no
      obtain ⟨_, arr, hbk, hms⟩ := hR.mapAt hs hom
      obtain ⟨rfl, rfl⟩ := ok_inj e3
      obtain ⟨hR', hbel⟩ := hR.setMap (es' := []) (arr' := #[]) (clock' := clock) hs hb hom (by simp [MEs])
      refine ⟨Γ, .tuple #[], _, ?_, .refl Γ, VR_un Γ, hR', hbel⟩
      simp [Builtin.clear_, h0, hX, run_underlying' hu, run_getObj hbk, MapKept.run_setObj_map _ hbk]
    | _ => rw [hox] at e1; exact (no_ok (e := e1)).elim
  | _ => rw [ht] at e; exact (no_ok (e := e)).elim
end
end Go.Ev

/- Entries of maps that are assigned to. -/
namespace Go.Ev
open Go Go.RowKit

section
variable {P : Program} {N : Nat → Prop} {nt : Nat} {Γ : Ctx} {h h' : Hp} {w : World} {v : AV} {f : F} {a : Act} {o : Oper}

theorem MEs_setK {k : AV} {K : Value} (hk : VR Γ k K) : ∀ (es : List ME) (ms : List MapEntry) (i : Nat) (e : ME), MEs Γ es ms → es[i]? = some e → MEs Γ (es.set i ⟨k, e.v, e.born⟩) (ms.modify i fun m => { m with key := K }) := by
  intro es
  induction es with
  | nil => intro ms i e _ h; simp at h
  | cons y r ih =>
    intro ms i e hm he
    simp only [MEs] at hm
    obtain ⟨m, s, rfl, h1, h2, h3, h4⟩ := hm
    cases i with
    | zero =>
      simp at he; subst he
      simp only [List.set_cons_zero, List.modify_zero_cons, MEs]
      exact ⟨_, s, rfl, hk, h2, h3, h4⟩
    | succ i =>
      simp at he
      simp only [List.set_cons_succ, List.modify_succ_cons, MEs]
      exact ⟨m, _, rfl, h1, h2, h3, ih s i e h4 he⟩
theorem MEs_setV {x : AV} {V : Value} (hx : VR Γ x V) : ∀ (es : List ME) (ms : List MapEntry) (i : Nat) (e : ME), MEs Γ es ms → es[i]? = some e → MEs Γ (es.set i ⟨e.k, x, e.born⟩) (ms.modify i fun m => { m with val := V }) := by
  intro es
  induction es with
  | nil => intro ms i e _ h; simp at h
  | cons y r ih =>
    intro ms i e hm he
    simp only [MEs] at hm
    obtain ⟨m, s, rfl, h1, h2, h3, h4⟩ := hm
    cases i with
    | zero =>
      simp at he; subst he
      simp only [List.set_cons_zero, List.modify_zero_cons, MEs]
      exact ⟨_, s, rfl, h1, hx, h3, h4⟩
    | succ i =>
      simp at he
      simp only [List.set_cons_succ, List.modify_succ_cons, MEs]
      exact ⟨m, _, rfl, h1, h2, h3, ih s i e h4 he⟩
theorem MEs_findIdx (born : Nat) : ∀ (es : List ME) (ms : List MapEntry), MEs Γ es ms → (ms.findIdx? fun e => (e.born : Int) == Int.ofNat born) = es.findIdx? fun e => Nat.beq e.born born
  | [], ms, hm => by simp only [MEs] at hm; subst hm; rfl
  | e :: es, ms, hm => by
    simp only [MEs] at hm
    obtain ⟨m, s, rfl, h1, h2, h3, h4⟩ := hm
    have hp : ((m.born : Int) == Int.ofNat born) = Nat.beq e.born born := by
      rw [h3]
      by_cases hh : e.born = born
      · subst hh; simp
      · have h5 : Nat.beq e.born born = false := by
          cases hb : Nat.beq e.born born
          · rfl
          · exact absurd (Nat.eq_of_beq_eq_true hb) hh
        rw [h5, beq_eq_false_iff_ne]
        intro hc; exact hh (Int.ofNat.inj hc)
    simp only [List.findIdx?_cons, hp, MEs_findIdx born es s h4]
theorem exMapEntry_ok {t : TypeId} {m k : Operand} (hR : Rel N Γ h w) (hf : FR nt Γ f a) (ho : o.op = .mapEntry t m k) (e : exMapEntry P t m k f h = .ok v h') : Gives P N Γ w (execOp a.eval o) v h' := by
  have hm := opd_rel hR hf m
  have hkv := opd_rel hR hf k
  have hex : ∀ val w', (Instr.mapEntry t (a.eval m) (a.eval k)).run P w = .ok val w' → (execOp a.eval o).run P w = .ok (.value val) w' := by
    intro val w' hr
    simp [execOp, ho, hr]
  unfold exMapEntry at e
  split at e
  · exact (no_ok (e := e)).elim
  · rename_i kt el hme
    obtain ⟨kk, hu, hk⟩ := mapEl_inv hme
    obtain ⟨b, hom, e1⟩ := AV.mapK_inv e ok_ne_no
    rw [hom] at hm; simp only [VR] at hm
    obtain ⟨c, hs, hX⟩ := hm
    obtain ⟨hb, e2⟩ := wr_inv e1 ok_ne_no
    obtain ⟨es, clock, hob, e3⟩ := mapK'_inv e2 ok_ne_no
    obtain ⟨_, arr, hbk, hms⟩ := hR.mapAt hs hob
    obtain ⟨hki, y, hy, e4⟩ := findK_inv e3 ok_ne_no
    have hkey := keyIs_isKey hki hkv
    have hfm := findME_ok hkv hkey es arr.toList 0 y hms hy
    cases y with
    | none =>
      simp only at hfm
      unfold entR at e4
      dsimp only at e4
      obtain ⟨z, l, hz, e5, _, hzv⟩ := zeroOf_all e4 ok_ne_no
      obtain ⟨rfl, rfl⟩ := ok_inj (show Ev.R.ok _ _ = _ from e5)
      obtain ⟨hR', hbel⟩ := hR.setMap (arr' := arr.push ⟨a.eval k, z, clock⟩) (clock' := clock + 1) hs hb hob (by rw [Array.toList_push]; exact MEs_push hkv (hzv Γ) es arr.toList hms)
      refine ⟨Γ, .tuple #[z, .int .i64 (.ofNat clock)], _, _, hex _ _ ?_, .inl rfl, .refl Γ, ?_, hR', hbel⟩
      · simp [Instr.mapEntry, hX, run_underlying' hu, run_getObj hbk, MapKept.run_checkKey hk hkey, MapKept.run_findKey hk hfm, hz w, MapKept.run_setObj_map _ hbk, Result.andThen, goInt]
      · simp only [VR, VRs]
        exact ⟨_, rfl, _, _, rfl, hzv Γ, _, _, rfl, rfl, rfl⟩
    | some p =>
      obtain ⟨j, me⟩ := p
      simp only at hfm
      obtain ⟨j', m', hj, g1, g2, g3, g4, hval, hfn⟩ := hfm
      rw [Nat.zero_add] at hj; subst hj
      obtain ⟨rfl, rfl⟩ := ok_inj (show Ev.R.ok _ _ = _ from e4)
      obtain ⟨hR', hbel⟩ := hR.setMap (arr' := arr.modify j fun m => { m with key := a.eval k }) (clock' := clock) hs hb hob (by rw [Array.toList_modify]; exact MEs_setK hkv es arr.toList j me hms g1)
      have g2' : arr[j]? = some m' := by simpa using g2
      refine ⟨Γ, .tuple #[m'.val, .int .i64 (.ofNat me.born)], _, _, hex _ _ ?_, .inl rfl, .refl Γ, ?_, hR', hbel⟩
      · simp [Instr.mapEntry, hX, run_underlying' hu, run_getObj hbk, MapKept.run_checkKey hk hkey, MapKept.run_findKey hk hfn, g2', g3, g4, MapKept.run_keyThatStays hkey, MapKept.run_setObj_map _ hbk, Result.andThen, goInt]
      · simp only [VR, VRs]
        exact ⟨_, rfl, _, _, rfl, hval, _, _, rfl, rfl, rfl⟩
theorem exEntryStore_ok {t : TypeId} {m s x : Operand} (hR : Rel N Γ h w) (hf : FR nt Γ f a) (ho : o.op = .entryStore t m s x) (e : exEntryStore m s x f h = .ok v h') : Gives P N Γ w (execOp a.eval o) v h' := by
  have hm := opd_rel hR hf m
  have hsv := opd_rel hR hf s
  have hxv := opd_rel hR hf x
  have hex : ∀ w', (Instr.entryStore t (a.eval m) (a.eval s) (a.eval x)).run P w = .ok () w' → (execOp a.eval o).run P w = .ok .skip w' := by
    intro w' hr
    simp [execOp, ho, hr]
  unfold exEntryStore at e
  obtain ⟨b, hom, e1⟩ := AV.mapK_inv e ok_ne_no
  rw [hom] at hm; simp only [VR] at hm
  obtain ⟨c, hs, hX⟩ := hm
  obtain ⟨hb, e2⟩ := wr_inv e1 ok_ne_no
  obtain ⟨es, clock, hob, e3⟩ := mapK'_inv e2 ok_ne_no
  obtain ⟨_, arr, hbk, hms⟩ := hR.mapAt hs hob
  obtain ⟨kk, z, hos, e4⟩ := AV.intK_inv e3 ok_ne_no
  rw [hos] at hsv; simp only [VR] at hsv
  cases z with
  | negSucc _ => exact (no_ok (e := e4)).elim
  | ofNat born =>
    have e4 : entS b (opd x f) es clock h born = .ok v h' := e4
    unfold entS at e4
    split at e4
    · rename_i i hi
      split at e4
      · rename_i e0 he0
        obtain ⟨rfl, rfl⟩ := ok_inj (show Ev.R.ok _ _ = _ from e4)
        have hfi := MEs_findIdx (Γ := Γ) born es arr.toList hms
        rw [hi] at hfi
        have hfa : (arr.findIdx? fun e => (e.born : Int) == Int.ofNat born) = some i := by
          have h9 : ∀ (A : Array MapEntry) (q : MapEntry → Bool), A.findIdx? q = A.toList.findIdx? q := fun A q => by rcases A with ⟨l⟩; simp
          rw [h9]; exact hfi
        obtain ⟨hR', hbel⟩ := hR.setMap (arr' := arr.modify i fun m => { m with val := a.eval x }) (clock' := clock) hs hb hob (by rw [Array.toList_modify]; exact MEs_setV hxv es arr.toList i e0 hms he0)
        refine ⟨Γ, undef, _, .skip, hex _ ?_, .inr ⟨rfl, rfl⟩, .refl Γ, VR_un Γ, hR', hbel⟩
        have hfa' : (arr.findIdx? fun e => (e.born : Int) == (born : Int)) = some i := hfa
        simp [Instr.entryStore, hX, hsv, run_getObj hbk, asInt, asIntOf, hfa', MapKept.run_setObj_map _ hbk, Result.andThen]
      · exact (no_ok (e := e4)).elim
    · exact (no_ok (e := e4)).elim
end
end Go.Ev

/- What operations and calls do. -/
namespace Go.Ev
open Go Go.RowKit

section
variable {P : Program} {N : Nat → Prop} {nt : Nat} {Γ : Ctx} {h h' : Hp} {w : World} {v : AV} {f : F} {a : Act} {o : Oper}

theorem exO_ok (hR : Rel N Γ h w) (hf : FR nt Γ f a) (e : exO P o.op f h = .ok v h') : Gives P N Γ w (execOp a.eval o) v h' := by
  cases ho : o.op with
  | move x => rw [ho] at e; exact exMove_ok hR hf (.inl ho) e
  | assign x => rw [ho] at e; exact exMove_ok hR hf (.inr ho) e
  | pick c x y => rw [ho] at e; exact exPick_ok hR hf ho e
  | alloc el => rw [ho] at e; exact exAlloc_ok (f := f) hR ho e
  | box el x => rw [ho] at e; exact exBox_ok hR hf ho e
  | build t ps => rw [ho] at e; exact exBuild_ok hR hf ho e
  | buildSlice t n ps => rw [ho] at e; exact exBuildSlice_ok hR hf ho e
  | insert t m k x => rw [ho] at e; exact exMapUpdate_ok hR hf (.inr ho) e
  | load t x => rw [ho] at e; exact exLoad_ok hR hf ho e
  | store t x y => rw [ho] at e; exact exStore_ok hR hf ho e
  | nilCheck x => rw [ho] at e; exact exNil_ok hR hf ho e
  | binOp op t x y t' => rw [ho] at e; exact exBin_ok hR hf ho e
  | unOp op t x => rw [ho] at e; exact exUn_ok hR hf ho e
  | convert s d x => rw [ho] at e; exact exConv_ok hR hf ho e
  | sliceToArrayPointer t x => rw [ho] at e; exact exS2ap_ok hR hf ho e
  | makeInterface t x => rw [ho] at e; exact exIface_ok hR hf ho e
  | makeFunc fn p c => rw [ho] at e; exact exMakeFunc_ok hR hf ho e
  | makeMap t r => rw [ho] at e; exact exMakeMap_ok (f := f) hR ho e
  | makeSlice t x y => rw [ho] at e; exact exMakeSlice_ok hR hf ho e
  | slice t x lo hi mx => rw [ho] at e; exact exSlice_ok hR hf ho e
  | fieldAddr t x i => rw [ho] at e; exact exFieldAddr_ok hR hf ho e
  | field t x i => rw [ho] at e; exact exField_ok hR hf ho e
  | indexAddr t x y => rw [ho] at e; exact exIndexAddr_ok hR hf ho e
  | index t x y => rw [ho] at e; exact exIndex_ok hR hf ho e
  | lookup t m k ok => rw [ho] at e; exact exLookup_ok hR hf ho e
  | mapUpdate t m k x => rw [ho] at e; exact exMapUpdate_ok hR hf (.inl ho) e
  | mapEntry t m k => rw [ho] at e; exact exMapEntry_ok hR hf ho e
  | entryStore t m s x => rw [ho] at e; exact exEntryStore_ok hR hf ho e
  | range t x => rw [ho] at e; exact exRange_ok hR hf ho e
  | next x s => rw [ho] at e; exact exNext_ok hR hf ho e
  | entry x => rw [ho] at e; exact exEntry_ok hR hf ho e
  | typeAssert x s t ok => rw [ho] at e; exact exTypeAssert_ok hR hf ho e
  | extract x i => rw [ho] at e; exact exExtract_ok hR hf ho e
  | _ => rw [ho] at e; exact (no_ok (e := e)).elim

theorem builtin_ok (hR : Rel N Γ h w) (hf : FR nt Γ f a) {b : Builtin} {ts : Array TypeId} {ty : TypeId} {cs : Array Bool} {l : List Operand} (e : exBuiltin P b ts l f h = .ok v h') :
    Gives P N Γ w (builtin b ts ty cs (l.map a.eval).toArray) v h' := by
  have go : ∀ {s : Sem Value} {t : Sem Next}, t = (do pure (.value (← s))) → GivesV P N Γ w s v h' → Gives P N Γ w t v h' := fun {s t} ht hg =>
    Gives_of_V hg (fun val w' hr => by subst ht; simp [hr])
  cases b with
  | append => exact go rfl (appendB_ok hR hf e)
  | cap => exact go rfl (capB_ok hR hf e)
  | clear => exact go rfl (clearB_ok hR hf e)
  | copy => exact go rfl (copyB_ok hR hf e)
  | delete => exact go rfl (deleteB_ok hR hf e)
  | len => exact go rfl (lenB_ok hR hf e)
  | max => exact go rfl (mm_ok (mx := true) (ts := ts) (ty := ty) hR hf e)
  | min => exact go rfl (mm_ok (mx := false) (ts := ts) (ty := ty) hR hf e)
  | _ => exact (no_ok (e := e)).elim
end
end Go.Ev

/- Calls. -/
namespace Go.Ev
open Go Go.RowKit

/-- how a call ends, and in what world -/
def EndR (N : Nat → Prop) (Γ : Ctx) (w : World) : R → Ending → World → Prop
  | .ok v h', .returned val, w' => ∃ Δ, Γ.Le Δ ∧ VR Δ v val ∧ Rel N Δ h' w' ∧ Below N w w'
  | .pan v h', .panicked chain, w' => ∃ Δ val, chain = [{ v := val, recovered := false }] ∧ Γ.Le Δ ∧ VR Δ v val ∧ Rel N Δ h' w' ∧ Below N w w'
  | _, _, _ => False
/-- what an operation does: it tells a value, it panics, or a function is entered -/
def Does (P : Program) (N : Nat → Prop) (Γ : Ctx) (w : World) (s : Sem Next) (r : R) : Prop :=
  (∃ val w' nx, s.run P w = .ok nx w' ∧ (nx = .value val ∨ (nx = .skip ∧ val = undef)) ∧ EndR N Γ w r (.returned val) w') ∨
  (∃ val w', s.run P w = .halt (.panic val) w' ∧ EndR N Γ w r (.panicked [{ v := val, recovered := false }]) w') ∨
  (∃ g args w1, s.run P w = .ok (.enter g args) w1 ∧ Calls P g args w1 (EndR N Γ w r))
/-- the same, or a round of a loop, where rounds may be -/
def DoesY (y : Bool) (P : Program) (N : Nat → Prop) (Γ : Ctx) (w : World) (s : Sem Next) (r : R) : Prop :=
  Does P N Γ w s r ∨ (y = true ∧ ∃ l fn tmps a c w1, s.run P w = .ok (.round l fn tmps a c) w1 ∧ RoundIn Fence.wide 0 P l fn tmps a c w1 (EndR N Γ w r))
def R.good (r : R) : Prop := ∀ s, r ≠ .fail s
theorem R.good_ok {v : AV} {h : Hp} : (R.ok v h).good := fun _ h => by cases h
theorem R.good_pan {v : AV} {h : Hp} : (R.pan v h).good := fun _ h => by cases h
theorem R.good_ne {r : R} (h : r.good) : r ≠ .no := h ""
/-- a call of a function; of a yield: a round of its loop -/
structure CallOK (P : Program) (N : Nat → Prop) (callR : Nat → AV → Hp → R) : Prop where
  fn : ∀ g args h Γ w vs r, callR g args h = r → r.good → Rel N Γ h w → VRs Γ args vs → Does P N Γ w (callFunc g vs.toArray) r
  yield : ∀ g b c args h Γ w vs r, callR g (.tup (.cn (.ptr b 0) args)) h = r → r.good → Rel N Γ h w → VRs Γ args vs → Γ.σ b = some (c, 0) → DoesY true P N Γ w (Instr.yield c vs.toArray) r
theorem noYR_tup {callR : Nat → AV → Hp → R} (b : Nat) (l : AV) (h : Hp) : noYR callR b (.tup l) h = .no := rfl

section
variable {P : Program} {N : Nat → Prop} {nt : Nat} {Γ : Ctx} {h h' : Hp} {w : World} {v : AV} {f : F} {a : Act} {o : Oper} {callR : Nat → AV → Hp → R} {r : R}

theorem Gives.does {s : Sem Next} (hg : Gives P N Γ w s v h') : Does P N Γ w s (.ok v h') := by
  obtain ⟨Δ, val, w', nx, h1, h2, h3, h4, h5, h6⟩ := hg
  exact .inl ⟨val, w', nx, h1, h2, Δ, h3, h4, h5, h6⟩
theorem noYR_ok (hc : CallOK P N callR) : CallOK P N (noYR callR) :=
  ⟨fun g args h Γ w vs r e hr hR hv => by
    cases args <;> first | exact hc.fn g _ h Γ w vs r e hr hR hv | (simp [VRs] at hv),
   fun g b c args h Γ w vs r e hr _ _ _ => absurd e.symm (R.good_ne hr)⟩
theorem DoesY.of_run {y : Bool} {s t : Sem Next} (hd : DoesY y P N Γ w t r) (he : s.run P w = t.run P w) : DoesY y P N Γ w s r := by
  unfold DoesY Does at *; rw [he]; exact hd
theorem Does.of_run {s t : Sem Next} (hd : Does P N Γ w t r) (he : s.run P w = t.run P w) : Does P N Γ w s r := by
  unfold Does at *; rw [he]; exact hd

theorem methG_inv {t : TypeId} {name : String} {g : Nat} (e : methG P t name = some g) {args : Array Value} {u : Value} :
    (callMethod (.iface t u) name args).run P w = (callFunc g (#[u] ++ args)).run P w := by
  unfold methG at e
  split at e
  · rename_i g' p hm
    split at e
    · rename_i hrecv
      cases e
      unfold methF at hm
      split at hm
      · rename_i m hm2
        split at hm
        · rename_i hp
          obtain ⟨i, hi, hfind⟩ := Option.bind_eq_some_iff.1 hm2
          obtain ⟨k, hk⟩ : ∃ k, P.types.size + Made.depth = k + 1 := ⟨P.types.size + 99, by simp [Made.depth]⟩
          have hpath : m.path.toList = [] := by simpa using hp
          unfold recvB at hrecv
          have hprog : (program).run P w = .ok P w := rfl
          simp only [callMethod, Sem.run_bind, hprog, Result.andThen_ok, hk, method, run_typeInfo hi, hfind, hpath, follow, Sem.run_pure, hm]
          split at hrecv
          · rename_i el hu
            subst hrecv
            simp [receiverAt, run_underlying' hu, Place.get]
          · rename_i d hd hu
            have hp' : p = false := by simpa using hrecv
            subst hp'
            simp only [receiverAt, Sem.run_bind, run_underlying' hu, Result.andThen_ok]
            cases d <;> first | (exfalso; exact hd _ rfl) | simp [Place.get]
          · cases hrecv
        · cases hm
      · cases hm
    · cases e
  · cases e
end
end Go.Ev

/- Calls, whole. -/
namespace Go.Ev
open Go Go.RowKit

section
variable {P : Program} {N : Nat → Prop} {nt : Nat} {Γ : Ctx} {h h' : Hp} {w : World} {v : AV} {f : F} {a : Act} {o : Oper} {callR : Nat → AV → Hp → R} {r : R}

theorem noPan_inv {x : Ev.R} (e : noPan x = r) (hr : r.good) : ∃ v h, x = .ok v h ∧ r = .ok v h := by
  cases x with
  | fail s => exact absurd e.symm (hr s)
  | ok v h => exact ⟨v, h, rfl, e.symm⟩
  | pan v h => exact absurd e.symm (hr "")

theorem methR_does (hc : CallOK P N callR) (hR : Rel N Γ h w) {name : String} {args : AV} {vs : List Value} (hv : VRs Γ args vs) (e : methR P callR name args h = r) (hr : r.good) :
    ∃ X rest, vs = X :: rest ∧ Does P N Γ w (callMethod X name rest.toArray) r := by
  obtain ⟨x, l, rfl, e1⟩ := AV.cnK_inv (show args.cnK Ev.R.no _ = _ from e) (R.good_ne hr)
  obtain ⟨t, y, rfl, e2⟩ := AV.ifcK_inv e1 (R.good_ne hr)
  simp only [VRs] at hv
  obtain ⟨X, rest, rfl, hX, hrest⟩ := hv
  simp only [VR] at hX
  obtain ⟨u, rfl, hu⟩ := hX
  refine ⟨_, rest, rfl, ?_⟩
  cases hg : methG P t name with
  | none => rw [hg] at e2; exact absurd e2.symm (R.good_ne hr)
  | some g =>
    rw [hg] at e2
    refine (hc.fn g (.cn y l) h Γ w (u :: rest) r e2 hr hR (by simp only [VRs]; exact ⟨u, rest, rfl, hu, hrest⟩)).of_run ?_
    rw [methG_inv hg]; simp
theorem methOfR_does (hc : CallOK P N callR) (hR : Rel N Γ h w) {t : TypeId} {name : String} {args : AV} {vs : List Value} (hv : VRs Γ args vs) (e : methOfR P callR t name args h = r) (hr : r.good) :
    ∃ X rest d, vs = X :: rest ∧ P.underlying t = some d ∧ (∀ ms, d ≠ .interface ms) ∧ Does P N Γ w (callMethod (.iface t X) name rest.toArray) r := by
  obtain ⟨x, l, rfl, e1⟩ := AV.cnK_inv (show args.cnK Ev.R.no _ = _ from e) (R.good_ne hr)
  simp only [VRs] at hv
  obtain ⟨X, rest, rfl, hX, hrest⟩ := hv
  have hifc : isIfc P t = false := by
    cases hh : isIfc P t
    · rfl
    · rw [hh] at e1; exact absurd e1.symm (R.good_ne hr)
  rw [hifc, cond_false] at e1
  obtain ⟨d, hd, hnd⟩ : ∃ d, P.underlying t = some d ∧ (∀ ms, d ≠ .interface ms) := by
    unfold isIfc at hifc
    split at hifc
    · cases hifc
    · rename_i d hd hu; exact ⟨d, hu, fun ms h => hd ms (by rw [h])⟩
    · cases hifc
  refine ⟨X, rest, d, rfl, hd, hnd, ?_⟩
  cases hg : methG P t name with
  | none => rw [hg] at e1; exact absurd e1.symm (R.good_ne hr)
  | some g =>
    rw [hg] at e1
    refine (hc.fn g (.cn x l) h Γ w (X :: rest) r e1 hr hR (by simp only [VRs]; exact ⟨X, rest, rfl, hX, hrest⟩)).of_run ?_
    rw [methG_inv hg]; simp

theorem invokeR_does {y : Bool} (hy : y = true ∨ ∀ b l h, callR b (.tup l) h = .no) (hc : CallOK P N callR) (hR : Rel N Γ h w) {fn fn' : Fn} (hfn : FnR Γ fn fn') {cap args : AV} {cs vs : List Value} (hcap : VRs Γ cap cs) (hv : VRs Γ args vs) (e : invokeR P callR fn cap args h = r) (hr : r.good) :
    DoesY y P N Γ w (invoke (.fn fn' cs.toArray) vs.toArray) r := by
  cases fn with
  | func g =>
    have hfn : fn' = .func g := hfn
    subst hfn
    refine .inl ((hc.fn g (appL args cap) h Γ w (vs ++ cs) r e hr hR (appL_vals _ _ _ _ hv hcap)).of_run ?_)
    simp [invoke]
  | method name =>
    have hfn : fn' = .method name := hfn
    subst hfn
    obtain ⟨X, rest, rfl, hd⟩ := methR_does hc hR hv (show methR P callR name args h = r from e) hr
    refine .inl (hd.of_run ?_)
    simp [invoke]
  | methodOf t name =>
    have hfn : fn' = .methodOf t name := hfn
    subst hfn
    obtain ⟨X, rest, d, rfl, hu, hnd, hd⟩ := methOfR_does hc hR hv (show methOfR P callR t name args h = r from e) hr
    refine .inl (hd.of_run ?_)
    simp only [invoke, List.getElem?_toArray, List.getElem?_cons_zero, Sem.run_bind, run_underlying' hu, Result.andThen_ok]
    cases d <;> first | (exfalso; exact hnd _ rfl) | simp
  | via t p g q => exact absurd e.symm (R.good_ne hr)
  | yield l =>
    obtain ⟨c, hs, rfl⟩ := hfn
    rcases hy with rfl | hy
    · refine (hc.yield l l c args h Γ w vs r e hr hR hv hs).of_run ?_
      simp [invoke]
    · exact absurd ((hy l (.cn (.ptr l 0) args) h).symm.trans e).symm (R.good_ne hr)

theorem exCall_does {y : Bool} (hy : y = true ∨ ∀ b l h, callR b (.tup l) h = .no) (hc : CallOK P N callR) (hR : Rel N Γ h w) (hf : FR nt Γ f a) {c : Call} (ho : o.op = .call c) (e : exCall P callR c f h = r) (hr : r.good) : DoesY y P N Γ w (execOp a.eval o) r := by
  obtain ⟨callee, args, ats⟩ := c
  have hargs := opdL_rel hR hf args.toList
  have hmap : args.map a.eval = (args.toList.map a.eval).toArray := by apply Array.ext'; simp
  cases callee with
  | value g =>
    obtain ⟨fn, fa, cp, hg, e1⟩ := AV.fnK_inv (show (opd g f).fnK Ev.R.no _ = _ from e) (R.good_ne hr)
    have hgv := opd_rel hR hf g
    rw [hg] at hgv; simp only [VR] at hgv
    obtain ⟨g', fs, cs, hG, h1, h2, h3⟩ := hgv
    refine (invokeR_does hy hc hR h3 h2 (appL_vals _ _ _ _ h1 hargs) e1 hr).of_run ?_
    have hfs : fs ++ (args.toList.map a.eval).toArray = (fs.toList ++ args.toList.map a.eval).toArray := by apply Array.ext'; simp
    simp only [execOp, ho, resolve, hG, Deferred.ofValue, Sem.run_bind, Sem.run_pure, Result.andThen_ok, hmap, hfs]
  | invoke rc name =>
    obtain ⟨X, rest, hx, hd⟩ := methR_does hc hR (vs := a.eval rc :: args.toList.map a.eval) (by simp only [VRs]; exact ⟨_, _, rfl, opd_rel hR hf rc, hargs⟩) (show methR P callR name (.cn (opd rc f) (opdL args.toList f)) h = r from e) hr
    cases hx
    refine .inl (hd.of_run ?_)
    have hfs : #[a.eval rc] ++ (args.toList.map a.eval).toArray = (a.eval rc :: args.toList.map a.eval).toArray := by apply Array.ext'; simp
    simp only [execOp, ho, resolve, Sem.run_bind, Sem.run_pure, Result.andThen_ok, hmap, hfs, invoke]
    simp
    rw [List.take_of_length_le (by simp)]
  | builtin b =>
    obtain ⟨v, h', e1, rfl⟩ := noPan_inv (show noPan (exBuiltin P b ats args.toList f h) = r from e) hr
    have key : ∀ cs, Does P N Γ w (builtin b ats o.type cs (args.toList.map a.eval).toArray) (.ok v h') := fun cs => (builtin_ok hR hf e1).does
    refine .inl ((key (args.map (fun x => match x with | .const _ => true | _ => false))).of_run ?_)
    simp only [execOp, ho, resolve, invoke, Sem.run_bind, Sem.run_pure, Result.andThen_ok, hmap]
    congr 2

theorem exPanic_does (hR : Rel N Γ h w) (hf : FR nt Γ f a) {x : Operand} (ho : o.op = .panic x) (e : exPanic x f h = r) (hr : r.good) : Does P N Γ w (execOp a.eval o) r := by
  obtain ⟨t, y, hx, e1⟩ := AV.ifcK_inv (show (opd x f).ifcK Ev.R.no _ = _ from e) (R.good_ne hr)
  have hxv := opd_rel hR hf x
  have hxv' := hxv
  rw [hx] at hxv'; simp only [VR] at hxv'
  obtain ⟨u, hX, _⟩ := hxv'
  subst e1
  refine .inr (.inl ⟨a.eval x, w, ?_, Γ, a.eval x, rfl, .refl Γ, hxv, hR, .refl N w⟩)
  simp [execOp, ho, Instr.panic, hX]
end
end Go.Ev

/- Regions whose order is fixed. -/
namespace Go.Ev
open Go Go.RowKit

/-- the fence that asks nothing; the code of a function, or of a round -/
def fen (ro : Option Nat) : Fence := { Fence.wide with round := ro }
theorem fen_depth {ro : Option Nat} {n : Nat} : (fen ro).depth.isSome = true → 1 ≤ n := fun h => by cases h
def X.good (x : X) : Prop := ∀ s, x ≠ .fail s
theorem X.good_ne {x : X} (h : x.good) : x ≠ .no := h ""
/-- what a piece of code leads to -/
def PostX (N : Nat → Prop) (nt : Nat) (Γ : Ctx) (w : World) : X → Exit → Act → World → Prop
  | .norm f h, .normal, a', w' => ∃ Δ, Γ.Le Δ ∧ Rel N Δ h w' ∧ FR nt Δ f a' ∧ Below N w w'
  | .exit i f h, .exit j, a', w' => j = i ∧ ∃ Δ, Γ.Le Δ ∧ Rel N Δ h w' ∧ FR nt Δ f a' ∧ Below N w w'
  | .ret f h, .ret, a', w' => ∃ Δ, Γ.Le Δ ∧ Rel N Δ h w' ∧ FR nt Δ f a' ∧ Below N w w'
  | .pan v f h, .panic chain, a', w' => ∃ Δ val, chain = [{ v := val, recovered := false }] ∧ Γ.Le Δ ∧ VR Δ v val ∧ Rel N Δ h w' ∧ FR nt Δ f a' ∧ Below N w w'
  | _, _, _, _ => False
theorem PostX.from {N : Nat → Prop} {nt : Nat} {Γ Δ : Ctx} {w u : World} (hle : Γ.Le Δ) (hb : Below N w u) {x : X} {e : Exit} {a : Act} {w' : World} (h : PostX N nt Δ u x e a w') : PostX N nt Γ w x e a w' := by
  cases x <;> cases e <;> try exact h.elim
  · obtain ⟨Θ, h1, h2, h3, h4⟩ := h; exact ⟨Θ, hle.trans h1, h2, h3, hb.trans h4⟩
  · obtain ⟨h0, Θ, h1, h2, h3, h4⟩ := h; exact ⟨h0, Θ, hle.trans h1, h2, h3, hb.trans h4⟩
  · obtain ⟨Θ, h1, h2, h3, h4⟩ := h; exact ⟨Θ, hle.trans h1, h2, h3, hb.trans h4⟩
  · obtain ⟨Θ, v, h0, h1, h5, h2, h3, h4⟩ := h; exact ⟨Θ, v, h0, hle.trans h1, h5, h2, h3, hb.trans h4⟩

section
variable {P : Program} {N : Nat → Prop} {nt : Nat} {Γ : Ctx} {h h' : Hp} {w : World} {v : AV} {f : F} {a : Act} {o : Oper} {callR : Nat → AV → Hp → R} {r : R} {x : X}

/-- outside of rounds, or no deferred call -/
def NoDef (ro : Option Nat) (o : Oper) : Prop := ro = none ∨ ∀ c, o.op ≠ .defer c
theorem NoDef.sem {ro : Option Nat} {o : Oper} (h : NoDef ro o) (ρ : Operand → Value) : o.semAt (fen ro).round ρ = execOp ρ o := by
  rcases h with rfl | h
  · rfl
  · exact Oper.semAt_eq ro ρ o h
def okD (nt : Nat) (o : Oper) : Prop := ∀ d, o.dst = some d → d < nt
theorem FR.put (hf : FR nt Γ f a) {d : Option Tmp} {val : Value} (hd : ∀ i, d = some i → i < nt) (hv : VR Γ v val) : FR nt Γ (putD d v f) (a.put d val) := by
  cases d with
  | none => exact hf
  | some i =>
    have hi : @LT.lt Nat _ i nt := hd i rfl
    have hi2 : @LT.lt Nat _ i a.tmps.size := Nat.lt_of_lt_of_le hi hf.size
    have hi3 : @LT.lt Nat _ i 272 := Nat.lt_of_lt_of_le hi hf.small
    have h1 := hf.size
    have h2 := hf.small
    refine ⟨fun j => ?_, hf.ds, by simp [Act.put]; omega, hf.small⟩
    show VR Γ (F.get j (F.set i v f)) _
    by_cases e : i = j
    · subst e
      rw [F.get_set_same]
      have : (a.put (some i) val).tmps.getD i undef = val := by simp only [Act.put, Array.getD_eq_getD_getElem?]; rw [Array.getElem?_setIfInBounds_self_of_lt hi2]; rfl
      rw [this]; exact hv
    · rw [F.get_set_ne' v f hi3 e]
      have : (a.put (some i) val).tmps.getD j undef = a.tmps.getD j undef := by simp [Act.put, Array.getElem?_setIfInBounds_ne e]
      rw [this]; exact hf.get j

theorem guardX_inv {ops : Array Oper} (hf : FR nt Γ f a) {yes no : X} (e : guardX ops o.guard f yes no = x) (hx : x.good) :
    (Region.wanted o (yielded ops a.tmps) = true ∧ yes = x) ∨ (Region.wanted o (yielded ops a.tmps) = false ∧ no = x) := by
  cases hg : o.guard with
  | none => rw [hg] at e; exact .inl ⟨by simp [Region.wanted, hg], e⟩
  | some p =>
    obtain ⟨j, want⟩ := p
    rw [hg] at e
    have hwant : Region.wanted o (yielded ops a.tmps) = (yielded ops a.tmps j == some want) := by simp [Region.wanted, hg]
    rw [hwant]
    change gTest (gslot ops j) want f yes no = x at e
    unfold yielded
    cases hs : gslot ops j with
    | none =>
      rw [hs] at e
      unfold gslot at hs
      rw [hs]
      exact .inr ⟨rfl, e⟩
    | some d =>
      rw [hs] at e
      unfold gslot at hs
      rw [hs]
      have hv := hf.get d
      simp only [Option.bind_some]
      have hopt : ∀ val, a.tmps.getD d undef = val → val ≠ undef → a.tmps[d]? = some val := fun val hval hne => by
        rw [Array.getD_eq_getD_getElem?] at hval
        cases hh : a.tmps[d]? with
        | none => rw [hh] at hval; exact absurd hval.symm hne
        | some y => rw [hh] at hval; exact congrArg some hval
      cases hd : F.get d f with
      | bool b =>
        rw [hd] at hv; simp only [VR] at hv
        have := hopt _ hv (by simp [undef])
        simp only [gTest, hd] at e
        simp only [this]
        cases b <;> cases want <;> first | exact .inl ⟨rfl, e⟩ | exact .inr ⟨rfl, e⟩
      | tup l =>
        simp only [gTest, hd] at e
        obtain ⟨rfl, e2⟩ := AV.nlK_inv (show l.nlK X.no no = x from e) (X.good_ne hx)
        rw [hd] at hv; simp only [VR, VRs] at hv
        obtain ⟨cs, hcs, _⟩ := hv
        refine .inr ⟨?_, e2⟩
        cases hh : a.tmps[d]? with
        | none => rfl
        | some y =>
          rw [Array.getD_eq_getD_getElem?, hh] at hcs
          change y = _ at hcs
          subst hcs; rfl
      | _ => simp only [gTest, hd] at e; exact absurd e.symm (X.good_ne hx)

/-- an operation that ends goes on -/
theorem does_wp {ro : Option Nat} (hnd : NoDef ro o) {Γ0 : Ctx} {w0 : World} {K : Act → World → Prop} {Q : Exit → Act → World → Prop} (hle : Γ0.Le Γ) (hb : Below N w0 w) (hf : FR nt Γ f a) (hd : okD nt o)
    (hdo : DoesY true P N Γ w (execOp a.eval o) r)
    (hk : ∀ v h', r = .ok v h' → ∀ Δ a' w', Γ0.Le Δ → Below N w0 w' → Rel N Δ h' w' → FR nt Δ (putD o.dst v f) a' → K a' w')
    (hq : ∀ v h', r = .pan v h' → ∀ Δ val w', Γ0.Le Δ → Below N w0 w' → Rel N Δ h' w' → VR Δ v val → FR nt Δ f a → Q (.panic [{ v := val, recovered := false }]) a w') : o.wpIn (fen ro) 0 P a w K Q := by
  refine ⟨fun _ _ => trivial, ?_⟩
  rw [hnd.sem]
  have hkk : ∀ val w', EndR N Γ w r (.returned val) w' → K (a.put o.dst val) w' := fun val w' he => by
    cases r with
    | ok v h' => obtain ⟨Δ, h1, h2, h3, h4⟩ := he; exact hk v h' rfl Δ _ w' (hle.trans h1) (hb.trans h4) h3 ((hf.mono h1).put hd h2)
    | _ => exact he.elim
  have hqq : ∀ ch w', EndR N Γ w r (.panicked ch) w' → Q (.panic ch) a w' := fun ch w' he => by
    cases r with
    | pan v h' => obtain ⟨Δ, val, rfl, h1, h2, h3, h4⟩ := he; exact hq v h' rfl Δ val w' (hle.trans h1) (hb.trans h4) h3 h2 (hf.mono h1)
    | _ => exact he.elim
  rcases hdo with (⟨val, w', nx, h1, h2, h3⟩ | ⟨val, w', h1, h3⟩ | ⟨g, args, w1, h1, h3⟩) | ⟨_, l, fn, tmps, c1, c2, w1, h1, h3⟩
  · rw [h1]
    rcases h2 with rfl | ⟨rfl, rfl⟩
    · exact hkk _ _ h3
    · exact hkk _ _ h3
  · rw [h1]; exact hqq _ _ h3
  · rw [h1]
    refine ⟨fen_depth, callsIn_wide.2 (Calls.mono h3 fun e w' he => ?_)⟩
    cases e with
    | returned val => exact hkk _ _ he
    | panicked ch => exact hqq _ _ he
    | outgrown => cases r <;> exact he.elim
  · rw [h1]
    refine ⟨fen_depth, RoundIn.mono h3 fun e w' he => ?_⟩
    cases e with
    | returned val => exact hkk _ _ he
    | panicked ch => exact hqq _ _ he
    | outgrown => cases r <;> exact he.elim

theorem doO_wp {ro : Option Nat} (hnd : NoDef ro o) {Γ0 : Ctx} {w0 : World} {K : Act → World → Prop} {Q : Exit → Act → World → Prop} {k : F → Hp → X} (hc : CallOK P N callR) (hle : Γ0.Le Γ) (hb : Below N w0 w) (hR : Rel N Γ h w) (hf : FR nt Γ f a) (hd : okD nt o)
    (e : doO P callR o k f h = x) (hx : x.good)
    (hk : ∀ f' h', k f' h' = x → ∀ Δ a' w', Γ0.Le Δ → Below N w0 w' → Rel N Δ h' w' → FR nt Δ f' a' → K a' w')
    (hq : ∀ v h', x = .pan v f h' → ∀ Δ val w', Γ0.Le Δ → Below N w0 w' → Rel N Δ h' w' → VR Δ v val → FR nt Δ f a → Q (.panic [{ v := val, recovered := false }]) a w') : o.wpIn (fen ro) 0 P a w K Q := by
  unfold doO at e
  have hP : ∀ r, bindP o.pos o.dst f k r = x → (DoesY true P N Γ w (execOp a.eval o) r) → o.wpIn (fen ro) 0 P a w K Q := fun r e hdo =>
    does_wp hnd hle hb hf hd hdo (fun v h' hr => by subst hr; exact hk _ _ e) (fun v h' hr => by subst hr; exact hq v h' e.symm)
  have hgood : ∀ r, bindP o.pos o.dst f k r = x → r.good := fun r e s hs => by subst hs; exact hx _ e.symm
  cases ho : o.op with
  | call c =>
    rw [ho] at e
    have e : bindP o.pos o.dst f k (exCall P callR c f h) = x := e
    exact hP _ e (exCall_does (.inl rfl) hc hR hf ho rfl (hgood _ e))
  | panic y =>
    rw [ho] at e
    have e : bindP o.pos o.dst f k (exPanic y f h) = x := e
    exact hP _ e (.inl (exPanic_does hR hf ho rfl (hgood _ e)))
  | defer c =>
    rw [ho] at e
    have e : deferF c f (fun f => k (putD o.dst un f) h) = x := e
    obtain ⟨callee, args, ats⟩ := c
    cases callee with
    | value g =>
      obtain ⟨fn, fa, cp, hg, e1⟩ := AV.fnK_inv (show (opd g f).fnK X.no _ = x from e) (X.good_ne hx)
      have hgv := opd_rel hR hf g
      rw [hg] at hgv; simp only [VR] at hgv
      obtain ⟨fn', fs, cs, hG, h1, h2, h3⟩ := hgv
      have hrun : (execOp a.eval o).run P w = .ok (.defer { target := .fn fn' cs, args := fs ++ args.map a.eval }) w := by
        simp [execOp, ho, resolve, hG, Deferred.ofValue]
      have hro : ro = none := hnd.resolve_right fun hh => hh _ ho
      subst hro
      refine ⟨fun _ _ => trivial, ?_⟩
      rw [hnd.sem, hrun]
      refine hk _ _ e1 Γ _ w hle hb hR (FR.put (f := ⟨f.t, .cn (.fn fn (appL fa (opdL args.toList f)) cp) f.ds⟩) (a := { a with defers := _ :: a.defers }) ⟨hf.get, ?_, hf.size, hf.small⟩ hd (VR_un Γ))
      simp only [DR]
      refine ⟨_, _, rfl, .inl ⟨fn, _, _, cs, fn', rfl, rfl, ?_, h2, h3⟩, hf.ds⟩
      have := appL_vals _ _ _ _ h1 (opdL_rel hR hf args.toList)
      simpa using this
    | _ => exact absurd e.symm (X.good_ne hx)
  | _ =>
    rw [ho] at e
    have e : bindR o.pos o.dst f k (exO P o.op f h) = x := by rw [ho]; exact e
    cases hr : exO P o.op f h with
    | fail s => rw [hr] at e; exact absurd e.symm (hx _)
    | pan v h' => rw [hr] at e; exact absurd e.symm (X.good_ne hx)
    | ok v h' =>
      rw [hr] at e
      exact does_wp hnd hle hb hf hd (.inl (exO_ok hR hf hr).does) (fun v' h'' he => by cases he; exact hk _ _ e) (fun v' h'' he => by cases he)
/-! outside of the fence: deferred functions -/
/-- an operation that ends goes on -/
theorem does_wp3 {Γ0 : Ctx} {w0 : World} {K : Act → World → Prop} {Q : Exit → Act → World → Prop} (hle : Γ0.Le Γ) (hb : Below N w0 w) (hf : FR nt Γ f a) (hd : okD nt o)
    (hdo : Does P N Γ w (execOp a.eval o) r)
    (hk : ∀ v h', r = .ok v h' → ∀ Δ a' w', Γ0.Le Δ → Below N w0 w' → Rel N Δ h' w' → FR nt Δ (putD o.dst v f) a' → K a' w')
    (hq : ∀ v h', r = .pan v h' → ∀ Δ val w', Γ0.Le Δ → Below N w0 w' → Rel N Δ h' w' → VR Δ v val → FR nt Δ f a → Q (.panic [{ v := val, recovered := false }]) a w') : o.wp P a w K Q := by
  unfold Oper.wp
  have hkk : ∀ val w', EndR N Γ w r (.returned val) w' → K (a.put o.dst val) w' := fun val w' he => by
    cases r with
    | ok v h' => obtain ⟨Δ, h1, h2, h3, h4⟩ := he; exact hk v h' rfl Δ _ w' (hle.trans h1) (hb.trans h4) h3 ((hf.mono h1).put hd h2)
    | _ => exact he.elim
  have hqq : ∀ ch w', EndR N Γ w r (.panicked ch) w' → Q (.panic ch) a w' := fun ch w' he => by
    cases r with
    | pan v h' => obtain ⟨Δ, val, rfl, h1, h2, h3, h4⟩ := he; exact hq v h' rfl Δ val w' (hle.trans h1) (hb.trans h4) h3 h2 (hf.mono h1)
    | _ => exact he.elim
  rcases hdo with ⟨val, w', nx, h1, h2, h3⟩ | ⟨val, w', h1, h3⟩ | ⟨g, args, w1, h1, h3⟩
  · rw [h1]
    rcases h2 with rfl | ⟨rfl, rfl⟩
    · exact hkk _ _ h3
    · exact hkk _ _ h3
  · rw [h1]; exact hqq _ _ h3
  · rw [h1]
    refine Calls.mono h3 fun e w' he => ?_
    cases e with
    | returned val => exact hkk _ _ he
    | panicked ch => exact hqq _ _ he
    | outgrown => cases r <;> exact he.elim

theorem doO_wp3 (hny : ∀ b l h, callR b (.tup l) h = .no) {Γ0 : Ctx} {w0 : World} {K : Act → World → Prop} {Q : Exit → Act → World → Prop} {k : F → Hp → X} (hc : CallOK P N callR) (hle : Γ0.Le Γ) (hb : Below N w0 w) (hR : Rel N Γ h w) (hf : FR nt Γ f a) (hd : okD nt o)
    (e : doO P callR o k f h = x) (hx : x.good)
    (hk : ∀ f' h', k f' h' = x → ∀ Δ a' w', Γ0.Le Δ → Below N w0 w' → Rel N Δ h' w' → FR nt Δ f' a' → K a' w')
    (hq : ∀ v h', x = .pan v f h' → ∀ Δ val w', Γ0.Le Δ → Below N w0 w' → Rel N Δ h' w' → VR Δ v val → FR nt Δ f a → Q (.panic [{ v := val, recovered := false }]) a w') : o.wp P a w K Q := by
  unfold doO at e
  have hP : ∀ r, bindP o.pos o.dst f k r = x → (Does P N Γ w (execOp a.eval o) r) → o.wp P a w K Q := fun r e hdo =>
    does_wp3 hle hb hf hd hdo (fun v h' hr => by subst hr; exact hk _ _ e) (fun v h' hr => by subst hr; exact hq v h' e.symm)
  have hgood : ∀ r, bindP o.pos o.dst f k r = x → r.good := fun r e s hs => by subst hs; exact hx _ e.symm
  cases ho : o.op with
  | call c =>
    rw [ho] at e
    have e : bindP o.pos o.dst f k (exCall P callR c f h) = x := e
    exact hP _ e ((exCall_does (y := false) (.inr hny) hc hR hf ho rfl (hgood _ e)).resolve_right fun h => by cases h.1)
  | panic y =>
    rw [ho] at e
    have e : bindP o.pos o.dst f k (exPanic y f h) = x := e
    exact hP _ e (exPanic_does hR hf ho rfl (hgood _ e))
  | defer c =>
    rw [ho] at e
    have e : deferF c f (fun f => k (putD o.dst un f) h) = x := e
    obtain ⟨callee, args, ats⟩ := c
    cases callee with
    | value g =>
      obtain ⟨fn, fa, cp, hg, e1⟩ := AV.fnK_inv (show (opd g f).fnK X.no _ = x from e) (X.good_ne hx)
      have hgv := opd_rel hR hf g
      rw [hg] at hgv; simp only [VR] at hgv
      obtain ⟨fn', fs, cs, hG, h1, h2, h3⟩ := hgv
      have hrun : (execOp a.eval o).run P w = .ok (.defer { target := .fn fn' cs, args := fs ++ args.map a.eval }) w := by
        simp [execOp, ho, resolve, hG, Deferred.ofValue]
      unfold Oper.wp
      rw [hrun]
      refine hk _ _ e1 Γ _ w hle hb hR (FR.put (f := ⟨f.t, .cn (.fn fn (appL fa (opdL args.toList f)) cp) f.ds⟩) (a := { a with defers := _ :: a.defers }) ⟨hf.get, ?_, hf.size, hf.small⟩ hd (VR_un Γ))
      simp only [DR]
      refine ⟨_, _, rfl, .inl ⟨fn, _, _, cs, fn', rfl, rfl, ?_, h2, h3⟩, hf.ds⟩
      have := appL_vals _ _ _ _ h1 (opdL_rel hR hf args.toList)
      simpa using this
    | _ => exact absurd e.symm (X.good_ne hx)
  | _ =>
    rw [ho] at e
    have e : bindR o.pos o.dst f k (exO P o.op f h) = x := by rw [ho]; exact e
    cases hr : exO P o.op f h with
    | fail s => rw [hr] at e; exact absurd e.symm (hx _)
    | pan v h' => rw [hr] at e; exact absurd e.symm (X.good_ne hx)
    | ok v h' =>
      rw [hr] at e
      exact does_wp3 hle hb hf hd (exO_ok hR hf hr).does (fun v' h'' he => by cases he; exact hk _ _ e) (fun v' h'' he => by cases he)
end
end Go.Ev

/- Regions whose order is fixed, whole. -/
namespace Go.Ev
open Go Go.RowKit

section
variable {P : Program} {N : Nat → Prop} {nt : Nat} {Γ Γ0 : Ctx} {h h' : Hp} {w w0 : World} {v : AV} {f : F} {a : Act} {o : Oper} {callR : Nat → AV → Hp → R} {r : R} {x : X}

theorem evOps_wp {ro : Option Nat} (hc : CallOK P N callR) {ops : Array Oper} (hx : x.good) : ∀ (l : List Oper) (i : Nat) (Γ : Ctx) (f : F) (h : Hp) (a : Act) (w : World), ops.toList.drop i = l → (∀ o ∈ l, okD nt o) → (∀ o ∈ l, NoDef ro o) → Γ0.Le Γ → Below N w0 w → Rel N Γ h w → FR nt Γ f a →
    evOps P callR ops l f h = x → wpOpsIn (fen ro) 0 P ops (PostX N nt Γ0 w0 x) (List.range' i l.length) a w
  | [], i, Γ, f, h, a, w, hl, hd, hnd, hle, hb, hR, hf, e => by
    change X.norm f h = x at e
    subst e
    exact ⟨Γ, hle, hR, hf, hb⟩
  | o :: l, i, Γ, f, h, a, w, hl, hd, hnd, hle, hb, hR, hf, e => by
    have hi : ops[i]? = some o := by
      have := congrArg (fun l => l[0]?) hl
      simpa using this
    have hl' : ops.toList.drop (i + 1) = l := by
      have := congrArg List.tail hl
      simpa using this
    have ih := evOps_wp (ro := ro) hc (ops := ops) hx l (i + 1)
    have hdo := hd o (by simp)
    have hdl : ∀ o ∈ l, okD nt o := fun o ho => hd o (by simp [ho])
    have hnl : ∀ o ∈ l, NoDef ro o := fun o ho => hnd o (by simp [ho])
    have hno := hnd o (by simp)
    rw [List.length_cons, List.range'_succ]
    simp only [wpOpsIn, hi]
    rcases guardX_inv hf (show guardX ops o.guard f (doO P callR o (evOps P callR ops l) f h) (evOps P callR ops l (putD o.dst un f) h) = x from e) hx with ⟨hw, e1⟩ | ⟨hw, e1⟩
    · rw [if_pos hw]
      refine doO_wp hno hc hle hb hR hf hdo e1 hx (fun f' h' e2 Δ a' w' g1 g2 g3 g4 => ih Δ f' h' a' w' hl' hdl hnl g1 g2 g3 g4 e2) ?_
      intro v h' hxe Δ val w' g1 g2 g3 g4 g5
      subst hxe
      exact ⟨Δ, val, rfl, g1, g4, g3, g5, g2⟩
    · rw [if_neg (by rw [hw]; decide)]
      exact ⟨fun _ _ => trivial, ih Γ _ h _ w hl' hdl hnl hle hb hR (hf.put hdo (VR_un Γ)) e1⟩

theorem region_wp {ro : Option Nat} (hc : CallOK P N callR) {ops : Array Oper} {id : Nat} (hx : x.good) (hd : ∀ o ∈ ops.toList, okD nt o) (hnd : ∀ o ∈ ops.toList, NoDef ro o) (hR : Rel N Γ h w) (hf : FR nt Γ f a) (e : evOps P callR ops ops.toList f h = x) :
    (Code.region id ops false).wpIn (fen ro) 0 P (PostX N nt Γ w x) a w := by
  apply wpIn_region
  have := evOps_wp (Γ0 := Γ) (w0 := w) hc (ops := ops) hx ops.toList 0 Γ f h a w (by simp) hd hnd (.refl Γ) (.refl N w) hR hf e
  rw [List.range_eq_range']
  simpa using this
end
end Go.Ev

/- What an operation looks at. -/
namespace Go.Ev
open Go Go.RowKit

section
variable {P : Program} {N : Nat → Prop} {nt : Nat} {Γ Γ0 : Ctx} {h h' : Hp} {w w0 : World} {v : AV} {f g : F} {a : Act} {o : Oper} {callR : Nat → AV → Hp → R} {r : R} {x : X}

theorem opdL_congr : ∀ l : List Operand, (∀ y ∈ l, opd y f = opd y g) → opdL l f = opdL l g
  | [], _ => rfl
  | y :: l, hl => by
    show AV.cn (opd y f) (opdL l f) = AV.cn (opd y g) (opdL l g)
    rw [hl y (by simp), opdL_congr l fun z hz => hl z (by simp [hz])]
theorem fillL_congr {place size : Nat → Nat} {c : AV → R} : ∀ (ps : List (Nat × Operand)) (cells : AV), (∀ p ∈ ps, opd p.2 f = opd p.2 g) → fillL place size f ps c cells = fillL place size g ps c cells
  | [], _, _ => rfl
  | p :: ps, cells, hl => by
    have key : ∀ f : F, fillL place size f (p :: ps) c cells = cellsK (opd p.2 f) Ev.R.no fun xs =>
        cond (Bool.and (Nat.beq (lenL xs) (size p.1)) (Nat.ble (Nat.add (place p.1) (size p.1)) (lenL cells)))
          (fillL place size f ps c (appL (takeL (place p.1) cells) (appL xs (dropL (Nat.add (place p.1) (size p.1)) cells)))) .no := fun f => rfl
    rw [key f, key g, hl p (by simp)]
    congr 1
    funext xs
    rw [fillL_congr ps _ fun q hq => hl q (by simp [hq])]
theorem optMap_congr {o : Option Operand} (hl : ∀ y ∈ o, opd y f = opd y g) : o.map (opd · f) = o.map (opd · g) := by
  cases o with
  | none => rfl
  | some y => simp [hl y (by simp)]
theorem exO_congr {op : Op} (hl : ∀ y ∈ op.operands, opd y f = opd y g) : exO P op f h = exO P op g h := by
  cases op with
  | move x => show exMove x f h = exMove x g h; unfold exMove; rw [hl x (by simp [Op.operands])]
  | assign x => show exMove x f h = exMove x g h; unfold exMove; rw [hl x (by simp [Op.operands])]
  | pick c x y => show exPick c x y f h = exPick c x y g h; unfold exPick; rw [hl c (by simp [Op.operands]), hl x (by simp [Op.operands]), hl y (by simp [Op.operands])]
  | alloc el => rfl
  | box el x => show exBox P el x f h = exBox P el x g h; unfold exBox; rw [hl x (by simp [Op.operands])]
  | build t ps =>
    have hp : ∀ p ∈ ps.toList, opd p.2 f = opd p.2 g := fun p hp => hl p.2 (by simp [Op.operands]; exact ⟨p.1, by simpa using hp⟩)
    show exBuild P t ps f h = exBuild P t ps g h
    unfold exBuild
    congr 1; funext zl
    cases btOf P t with
    | st fs => show cond _ (fillL _ _ f _ _ _) _ = cond _ (fillL _ _ g _ _ _) _; rw [fillL_congr _ _ hp]
    | ar el => exact fillL_congr _ _ hp
    | bad => rfl
  | buildSlice t n ps =>
    have hp : ∀ p ∈ ps.toList, opd p.2 f = opd p.2 g := fun p hp => hl p.2 (by simp [Op.operands]; exact ⟨p.1, by simpa using hp⟩)
    show exBuildSlice P t n ps f h = exBuildSlice P t n ps g h
    unfold exBuildSlice
    cases tyOf P t with
    | sl el =>
      show cellsK _ _ _ = cellsK _ _ _
      congr 1; funext zl; congr 1; congr 1
      exact fillL_congr _ _ hp
    | _ => rfl
  | insert t m k x => show exMapUpdate P t m k x f h = exMapUpdate P t m k x g h; unfold exMapUpdate; rw [hl m (by simp [Op.operands]), hl k (by simp [Op.operands]), hl x (by simp [Op.operands])]
  | load t x => show exLoad P t x f h = exLoad P t x g h; unfold exLoad; rw [hl x (by simp [Op.operands])]
  | store t x y => show exStore P t x y f h = exStore P t x y g h; unfold exStore; rw [hl x (by simp [Op.operands]), hl y (by simp [Op.operands])]
  | nilCheck x => show exNil x f h = exNil x g h; unfold exNil; rw [hl x (by simp [Op.operands])]
  | binOp op t x y t' => show exBin P op t x y t' f h = exBin P op t x y t' g h; unfold exBin; rw [hl x (by simp [Op.operands]), hl y (by simp [Op.operands])]
  | unOp op t x => show exUn op t x f h = exUn op t x g h; unfold exUn; rw [hl x (by simp [Op.operands])]
  | convert s d x => show exConv P s d x f h = exConv P s d x g h; unfold exConv; rw [hl x (by simp [Op.operands])]
  | sliceToArrayPointer t x => show exS2ap P t x f h = exS2ap P t x g h; unfold exS2ap; rw [hl x (by simp [Op.operands])]
  | makeInterface t x => show exIface P t x f h = exIface P t x g h; unfold exIface; rw [hl x (by simp [Op.operands])]
  | makeFunc fn p c =>
    show exMakeFunc fn p c f h = exMakeFunc fn p c g h
    unfold exMakeFunc
    rw [opdL_congr p.toList fun y hy => hl y (by simp [Op.operands]; exact .inl (by simpa using hy)), opdL_congr c.toList fun y hy => hl y (by simp [Op.operands]; exact .inr (by simpa using hy))]
  | makeMap t r => rfl
  | makeSlice t x y => show exMakeSlice P t x y f h = exMakeSlice P t x y g h; unfold exMakeSlice; rw [hl x (by simp [Op.operands]), hl y (by simp [Op.operands])]
  | slice t x lo hi mx =>
    show exSlice P t x lo hi mx f h = exSlice P t x lo hi mx g h
    unfold exSlice
    rw [hl x (by simp [Op.operands]), optMap_congr (o := lo) fun y hy => hl y (by simp [Op.operands]; simp_all), optMap_congr (o := hi) fun y hy => hl y (by simp [Op.operands]; simp_all), optMap_congr (o := mx) fun y hy => hl y (by simp [Op.operands]; simp_all)]
  | fieldAddr t x i => show exFieldAddr P t x i f h = exFieldAddr P t x i g h; unfold exFieldAddr; rw [hl x (by simp [Op.operands])]
  | field t x i => show exField P t x i f h = exField P t x i g h; unfold exField; rw [hl x (by simp [Op.operands])]
  | indexAddr t x y => show exIndexAddr P t x y f h = exIndexAddr P t x y g h; unfold exIndexAddr; rw [hl x (by simp [Op.operands]), hl y (by simp [Op.operands])]
  | index t x y => show exIndex P t x y f h = exIndex P t x y g h; unfold exIndex; rw [hl x (by simp [Op.operands]), hl y (by simp [Op.operands])]
  | lookup t m k ok => show exLookup P t m k ok f h = exLookup P t m k ok g h; unfold exLookup; rw [hl m (by simp [Op.operands]), hl k (by simp [Op.operands])]
  | mapUpdate t m k x => show exMapUpdate P t m k x f h = exMapUpdate P t m k x g h; unfold exMapUpdate; rw [hl m (by simp [Op.operands]), hl k (by simp [Op.operands]), hl x (by simp [Op.operands])]
  | mapEntry t m k => show exMapEntry P t m k f h = exMapEntry P t m k g h; unfold exMapEntry; rw [hl m (by simp [Op.operands]), hl k (by simp [Op.operands])]
  | entryStore t m s x => show exEntryStore m s x f h = exEntryStore m s x g h; unfold exEntryStore; rw [hl m (by simp [Op.operands]), hl s (by simp [Op.operands]), hl x (by simp [Op.operands])]
  | range t x => show exRange P t x f h = exRange P t x g h; unfold exRange; rw [hl x (by simp [Op.operands])]
  | next x s => show exNext x s f h = exNext x s g h; unfold exNext; rw [hl x (by simp [Op.operands])]
  | entry x => show exEntry x f h = exEntry x g h; unfold exEntry; rw [hl x (by simp [Op.operands])]
  | typeAssert x s t ok => show exTypeAssert P x s t ok f h = exTypeAssert P x s t ok g h; unfold exTypeAssert; rw [hl x (by simp [Op.operands])]
  | extract x i => show exExtract x i f h = exExtract x i g h; unfold exExtract; rw [hl x (by simp [Op.operands])]
  | _ => rfl
theorem arg0_congr {l : List Operand} {c : AV → R} (hl : ∀ y ∈ l, opd y f = opd y g) : arg0 l f c = arg0 l g c := by
  match l with
  | [] => rfl
  | [y] => show c (opd y f) = c (opd y g); rw [hl y (by simp)]
  | _ :: _ :: _ => rfl
theorem arg2_congr {l : List Operand} {c : AV → AV → R} (hl : ∀ y ∈ l, opd y f = opd y g) : arg2 l f c = arg2 l g c := by
  match l with
  | [] => rfl
  | [y] => rfl
  | [y, z] => show c (opd y f) (opd z f) = c (opd y g) (opd z g); rw [hl y (by simp), hl z (by simp)]
  | _ :: _ :: _ :: _ => rfl
theorem mm_congr {mx : Bool} {l : List Operand} (hl : ∀ y ∈ l, opd y f = opd y g) : mm mx l f h = mm mx l g h := by
  cases l with
  | nil => rfl
  | cons y r =>
    show (opd y f).intK Ev.R.no _ = (opd y g).intK Ev.R.no _
    rw [hl y (by simp)]
    congr 1
    funext k z
    have : ∀ (r : List Operand) (z : Int), (∀ y ∈ r, opd y f = opd y g) →
      List.rec (motive := fun _ => Int → Ev.R) (fun z => okI k z h) (fun y _ ih z => (opd y f).intK .no fun j u => cond (Nat.beq (kN k) (kN j)) (ih (cond mx (if z < u then u else z) (if u < z then u else z))) .no) r z =
      List.rec (motive := fun _ => Int → Ev.R) (fun z => okI k z h) (fun y _ ih z => (opd y g).intK .no fun j u => cond (Nat.beq (kN k) (kN j)) (ih (cond mx (if z < u then u else z) (if u < z then u else z))) .no) r z := by
      intro r
      induction r with
      | nil => intro z _; rfl
      | cons y r ih =>
        intro z hr
        show (opd y f).intK Ev.R.no _ = (opd y g).intK Ev.R.no _
        rw [hr y (by simp)]
        congr 1
        funext j u
        congr 1
        exact ih _ fun y hy => hr y (by simp [hy])
    exact this r z fun y hy => hl y (by simp [hy])
theorem exBuiltin_congr {b : Builtin} {ts : Array TypeId} {l : List Operand} (hl : ∀ y ∈ l, opd y f = opd y g) : exBuiltin P b ts l f h = exBuiltin P b ts l g h := by
  cases b with
  | append => show appendB P ts l f h = appendB P ts l g h; unfold appendB; cases ty0 P ts <;> first | rfl | (show cond _ (arg2 l f _) _ = cond _ (arg2 l g _) _; rw [arg2_congr hl])
  | cap => show capB P ts l f h = capB P ts l g h; unfold capB; cases ty0 P ts <;> first | rfl | exact arg0_congr hl
  | clear => show clearB P ts l f h = clearB P ts l g h; unfold clearB; cases ty0 P ts <;> first | rfl | exact arg0_congr hl | (show cond _ (arg0 l f _) _ = cond _ (arg0 l g _) _; rw [arg0_congr hl])
  | copy => show copyB P ts l f h = copyB P ts l g h; unfold copyB; cases ty0 P ts <;> first | rfl | exact arg2_congr hl
  | delete => show deleteB P ts l f h = deleteB P ts l g h; unfold deleteB; split <;> first | rfl | exact arg2_congr hl
  | len => exact arg0_congr (c := fun v => lenR P ts v h) hl
  | max => exact mm_congr hl
  | min => exact mm_congr hl
  | _ => rfl
theorem exCall_congr {c : Call} (hl : ∀ y ∈ c.operands, opd y f = opd y g) : exCall P callR c f h = exCall P callR c g h := by
  obtain ⟨callee, args, ats⟩ := c
  have hargs : ∀ y ∈ args.toList, opd y f = opd y g := fun y hy => hl y (by simp [Call.operands]; exact .inr (by simpa using hy))
  cases callee with
  | value fn =>
    show (opd fn f).fnK Ev.R.no _ = (opd fn g).fnK Ev.R.no _
    rw [hl fn (by simp [Call.operands]), opdL_congr _ hargs]
  | invoke r n =>
    show methR P callR n (.cn (opd r f) (opdL args.toList f)) h = methR P callR n (.cn (opd r g) (opdL args.toList g)) h
    rw [hl r (by simp [Call.operands]), opdL_congr _ hargs]
  | builtin b => show noPan (exBuiltin P b ats args.toList f h) = noPan (exBuiltin P b ats args.toList g h); rw [exBuiltin_congr hargs]
theorem exE_congr {op : Op} (hl : ∀ y ∈ op.operands, opd y f = opd y g) : exE P callR op f h = exE P callR op g h := by
  cases op with
  | call c => exact exCall_congr hl
  | panic x => rfl
  | defer c => rfl
  | _ => exact exO_congr (P := P) (h := h) hl
theorem exPure_congr {op : Op} (hl : ∀ y ∈ op.operands, opd y f = opd y g) : exPure P op f h = exPure P op g h := by
  cases op with
  | call c =>
    obtain ⟨callee, args, ats⟩ := c
    have hargs : ∀ y ∈ args.toList, opd y f = opd y g := fun y hy => hl y (by simp [Op.operands, Call.operands]; exact .inr (by simpa using hy))
    cases callee with
    | builtin b => show noPan (exBuiltin P b ats args.toList f h) = noPan (exBuiltin P b ats args.toList g h); rw [exBuiltin_congr hargs]
    | _ => rfl
  | panic x => rfl
  | defer c => rfl
  | _ => exact exO_congr (P := P) (h := h) hl
end
end Go.Ev

/- Operations that leave the heap as it is. -/
namespace Go.Ev
open Go Go.RowKit

def Keeps (h : Hp) (r : R) : Prop := ∀ v h', r = .ok v h' → h' = h
section
variable {P : Program} {N : Nat → Prop} {nt : Nat} {Γ Γ0 : Ctx} {h h' : Hp} {w w0 : World} {v : AV} {f g : F} {a : Act} {o : Oper} {callR : Nat → AV → Hp → R} {r : R} {x : X}

theorem Keeps.ok : Keeps h (.ok v h) := fun _ _ e => by cases e; rfl
theorem Keeps.no : Keeps h .no := fun _ _ e => by cases e
theorem Keeps.okI {k : IntKind} {z : Int} : Keeps h (okI k z h) := Keeps.ok
theorem Keeps.cond {c : Bool} {r s : R} (h1 : Keeps h r) (h2 : Keeps h s) : Keeps h (cond c r s) := by cases c; exact h2; exact h1
theorem Keeps.forceN {n : Nat} {k : Nat → R} (h1 : ∀ n, Keeps h (k n)) : Keeps h (forceN n k) := by rw [forceN_eq]; exact h1 n
theorem Keeps.natK {z : Int} {d : R} {k : Nat → R} (h1 : Keeps h d) (h2 : ∀ n, Keeps h (k n)) : Keeps h (natK z d k) := by cases z; exact h2 _; exact h1
theorem Keeps.intK {y : AV} {d : R} {k : IntKind → Int → R} (h1 : Keeps h d) (h2 : ∀ i z, Keeps h (k i z)) : Keeps h (y.intK d k) := by cases y <;> first | exact h1 | exact h2 _ _
theorem Keeps.boolK {y : AV} {d : R} {k : Bool → R} (h1 : Keeps h d) (h2 : ∀ i, Keeps h (k i)) : Keeps h (y.boolK d k) := by cases y <;> first | exact h1 | exact h2 _
theorem Keeps.fltK {y : AV} {d : R} {k : FloatKind → Nat → R} (h1 : Keeps h d) (h2 : ∀ i z, Keeps h (k i z)) : Keeps h (y.fltK d k) := by cases y <;> first | exact h1 | exact h2 _ _
theorem Keeps.strK {y : AV} {d : R} {k : Nat → Nat → R} (h1 : Keeps h d) (h2 : ∀ i z, Keeps h (k i z)) : Keeps h (y.strK d k) := by cases y <;> first | exact h1 | exact h2 _ _
theorem Keeps.ptrK {y : AV} {d : R} {k : Nat → Nat → R} (h1 : Keeps h d) (h2 : ∀ i z, Keeps h (k i z)) : Keeps h (y.ptrK d k) := by cases y <;> first | exact h1 | exact h2 _ _
theorem Keeps.slcK {y : AV} {d : R} {k : Nat → Nat → Nat → Nat → Nat → Bool → R} (h1 : Keeps h d) (h2 : ∀ a b c e i z, Keeps h (k a b c e i z)) : Keeps h (y.slcK d k) := by cases y <;> first | exact h1 | exact h2 _ _ _ _ _ _
theorem Keeps.slxK {y : AV} {d : R} {k : Nat → R} (h1 : Keeps h d) (h2 : ∀ i, Keeps h (k i)) : Keeps h (y.slxK d k) := by cases y <;> first | exact h1 | exact h2 _
theorem Keeps.mapK {y : AV} {d : R} {k : Nat → R} (h1 : Keeps h d) (h2 : ∀ i, Keeps h (k i)) : Keeps h (y.mapK d k) := by cases y <;> first | exact h1 | exact h2 _
theorem Keeps.fnK {y : AV} {d : R} {k : Fn → AV → AV → R} (h1 : Keeps h d) (h2 : ∀ a b c, Keeps h (k a b c)) : Keeps h (y.fnK d k) := by cases y <;> first | exact h1 | exact h2 _ _ _
theorem Keeps.ifcK {y : AV} {d : R} {k : Nat → AV → R} (h1 : Keeps h d) (h2 : ∀ i z, Keeps h (k i z)) : Keeps h (y.ifcK d k) := by cases y <;> first | exact h1 | exact h2 _ _
theorem Keeps.aggK {y : AV} {d : R} {k : AV → R} (h1 : Keeps h d) (h2 : ∀ i, Keeps h (k i)) : Keeps h (y.aggK d k) := by cases y <;> first | exact h1 | exact h2 _
theorem Keeps.tupK {y : AV} {d : R} {k : AV → R} (h1 : Keeps h d) (h2 : ∀ i, Keeps h (k i)) : Keeps h (y.tupK d k) := by cases y <;> first | exact h1 | exact h2 _
theorem Keeps.nilsK {y : AV} {d k : R} (h1 : Keeps h d) (h2 : Keeps h k) : Keeps h (y.nilsK d k) := by cases y <;> first | exact h1 | exact h2
theorem Keeps.nilmK {y : AV} {d k : R} (h1 : Keeps h d) (h2 : Keeps h k) : Keeps h (y.nilmK d k) := by cases y <;> first | exact h1 | exact h2
theorem Keeps.niliK {y : AV} {d k : R} (h1 : Keeps h d) (h2 : Keeps h k) : Keeps h (y.niliK d k) := by cases y <;> first | exact h1 | exact h2
theorem Keeps.cellsK {y : AV} {d : R} {k : AV → R} (h1 : Keeps h d) (h2 : ∀ i, Keeps h (k i)) : Keeps h (cellsK y d k) := Keeps.aggK (Keeps.cond h1 (h2 _)) h2
theorem Keeps.cellK {ob : Ob} {p : Nat} {d : R} {k : AV → R} (h1 : Keeps h d) (h2 : ∀ i, Keeps h (k i)) : Keeps h (cellK ob p d k) := by
  cases ob <;> first | exact h1 | exact Keeps.cond (h2 _) h1 | exact Keeps.cond (Keeps.forceN fun _ => h2 _) h1
theorem Keeps.readK {ob : Ob} {p n : Nat} {d : R} {k : AV → R} (h1 : Keeps h d) (h2 : ∀ i, Keeps h (k i)) : Keeps h (readK ob p n d k) := by
  have : ∀ (n : Nat) (acc : AV), Keeps h (Nat.rec (motive := fun _ => AV → Ev.R) k (fun i ih acc => Ev.cellK ob (Nat.add p i) d fun v => ih (.cn v acc)) n acc) := by
    intro n
    induction n with
    | zero => exact fun acc => h2 acc
    | succ n ih => exact fun acc => Keeps.cellK h1 fun v => ih _
  exact this n .nl
theorem Keeps.fitN {k : IntKind} {s : Nat} {slow : R} (h1 : Keeps h slow) : Keeps h (fitN k s h slow) := Keeps.forceN fun _ => Keeps.cond Keeps.ok h1
theorem Keeps.ag {A B C : R} {t : TypeId} (h1 : Keeps h A) (h2 : Keeps h B) (h3 : Keeps h C) : Keeps h (Ag.rec (motive := fun _ => R) A B C (agT P t)) := by cases agT P t; exact h1; exact h2; exact h3
theorem Keeps.partR {t : TypeId} {l : AV} {n : Nat} : Keeps h (partR P t l n h) := Keeps.ag Keeps.ok (Keeps.cond Keeps.ok Keeps.no) Keeps.no
theorem Keeps.optN {y : Option AV} {n : Nat} {c : Nat → R} (h1 : ∀ n, Keeps h (c n)) : Keeps h (optN y n c) := by
  cases y with
  | none => exact h1 _
  | some y => exact Keeps.intK Keeps.no fun _ _ => Keeps.natK Keeps.no h1
theorem Keeps.boundsK {n m : Nat} {lo hi mx : Option AV} {c : Nat → Nat → Nat → R} (h1 : ∀ a b d, Keeps h (c a b d)) : Keeps h (boundsK n m lo hi mx c) :=
  Keeps.cond Keeps.no <| Keeps.optN fun _ => Keeps.cond (Keeps.optN fun _ => Keeps.cond (Keeps.optN fun _ => Keeps.cond (h1 _ _ _) Keeps.no) Keeps.no) Keeps.no
theorem Keeps.strR {n s : Nat} : Keeps h (strR n s h) := Keeps.forceN fun _ => Keeps.forceN fun _ => Keeps.ok
theorem Keeps.subSl {b p es l k m : Nat} {ex : Bool} : Keeps h (subSl b p es ex l k m h) :=
  Keeps.cond (by cases ex <;> exact Keeps.ok) (Keeps.forceN fun _ => Keeps.forceN fun _ => Keeps.forceN fun _ => Keeps.ok)
theorem Keeps.slice {t : TypeId} {y : Operand} {lo hi mx : Option Operand} : Keeps h (exSlice P t y lo hi mx f h) := by
  unfold exSlice
  split
  · exact Keeps.cond Keeps.no (Keeps.strK Keeps.no fun _ _ => Keeps.boundsK fun _ _ _ => Keeps.strR)
  · exact Keeps.slcK (Keeps.nilsK (Keeps.slxK Keeps.no fun _ => Keeps.boundsK fun _ _ _ => Keeps.cond Keeps.no (Keeps.forceN fun _ => Keeps.ok)) (Keeps.boundsK fun _ _ _ => Keeps.ok)) fun _ _ _ _ _ _ => Keeps.cond (Keeps.boundsK fun _ _ _ => Keeps.subSl) Keeps.no
  · exact Keeps.ptrK Keeps.no fun _ _ => Keeps.boundsK fun _ _ _ => Keeps.subSl
  · exact Keeps.no
theorem Keeps.foundR {ok : Bool} {el : TypeId} {e : Option (Nat × ME)} : Keeps h (foundR P ok el h e) := by
  unfold Ev.foundR; split
  · exact Keeps.cond Keeps.ok Keeps.ok
  · exact Keeps.cellsK Keeps.no fun _ => Keeps.cond Keeps.ok Keeps.ok
theorem Keeps.findK {kt : Kt} {k : AV} {es : List ME} {c : Option (Nat × ME) → R} (h1 : ∀ e, Keeps h (c e)) : Keeps h (findK kt k es c) := by
  unfold Ev.findK
  refine Keeps.cond ?_ Keeps.no
  split
  · exact h1 _
  · exact Keeps.no
theorem Keeps.lookup {t : TypeId} {m k : Operand} {ok : Bool} : Keeps h (exLookup P t m k ok f h) := by
  unfold exLookup
  split
  · exact Keeps.no
  · refine Keeps.mapK (Keeps.nilmK Keeps.no (Keeps.findK fun _ => Keeps.foundR)) fun b => ?_
    unfold mapK'
    split
    · exact Keeps.findK fun _ => Keeps.foundR
    · exact Keeps.no
theorem Keeps.asFin {t : TypeId} {ok b : Bool} {y : AV} : Keeps h (asFin P t ok b y h) := Keeps.cond (Keeps.cond Keeps.ok Keeps.ok) (Keeps.cond (Keeps.cellsK Keeps.no fun _ => Keeps.ok) Keeps.no)
theorem Keeps.assert {y : Operand} {s t : TypeId} {ok : Bool} : Keeps h (exTypeAssert P y s t ok f h) := by
  unfold exTypeAssert
  split
  · refine Keeps.ifcK (Keeps.niliK Keeps.no Keeps.asFin) fun _ _ => ?_
    unfold asIfc
    split
    · exact Keeps.asFin
    · exact Keeps.no
  · exact Keeps.ifcK (Keeps.niliK Keeps.no Keeps.asFin) fun _ _ => Keeps.asFin
  · exact Keeps.no
theorem Keeps.fillL {place size : Nat → Nat} {c : AV → R} (h1 : ∀ l, Keeps h (c l)) : ∀ (ps : List (Nat × Operand)) (cells : AV), Keeps h (fillL place size f ps c cells)
  | [], _ => h1 _
  | p :: ps, cells => by
    have key : Ev.fillL place size f (p :: ps) c cells = Ev.cellsK (opd p.2 f) Ev.R.no fun xs =>
        _root_.cond (Bool.and (Nat.beq (lenL xs) (size p.1)) (Nat.ble (Nat.add (place p.1) (size p.1)) (lenL cells)))
          (Ev.fillL place size f ps c (appL (takeL (place p.1) cells) (appL xs (dropL (Nat.add (place p.1) (size p.1)) cells)))) .no := rfl
    rw [key]
    exact Keeps.cellsK Keeps.no fun _ => Keeps.cond (Keeps.fillL h1 ps _) Keeps.no
theorem Keeps.build {t : TypeId} {ps : Array (Nat × Operand)} : Keeps h (exBuild P t ps f h) := by
  refine Keeps.cellsK Keeps.no fun zl => ?_
  cases btOf P t with
  | st fs => exact Keeps.cond (Keeps.fillL (fun _ => Keeps.ok) _ _) Keeps.no
  | ar el => exact Keeps.fillL (fun _ => Keeps.ok) _ _
  | bad => exact Keeps.no
theorem Keeps.convI {k : IntKind} {y : AV} : Keeps h (convI k y h) := by
  refine Keeps.intK (Keeps.fltK Keeps.no fun s b => ?_) fun _ _ => Keeps.natK Keeps.okI fun _ => Keeps.fitN Keeps.okI
  split
  · split
    · exact Keeps.okI
    · exact Keeps.no
  · exact Keeps.no
theorem Keeps.lenK {y : AV} {d : R} {c : Nat → R} (h1 : Keeps h d) (h2 : ∀ n, Keeps h (c n)) : Keeps h (lenK y d c) :=
  Keeps.slcK (Keeps.nilsK (Keeps.strK (Keeps.slxK h1 fun _ => h2 _) fun _ _ => h2 _) (h2 _)) fun _ _ _ _ _ _ => h2 _
theorem Keeps.packK {α : Type} {rr : Rw} {c : Nat → Nat → R} (h2 : ∀ n m, Keeps h (c n m)) : Keeps h (rr.packK .no c) := by
  cases rr with
  | bs n y => exact h2 _ _
  | cs l =>
    have : ∀ (l : AV) (c : Nat → Nat → Ev.R), (∀ n m, Keeps h (c n m)) → Keeps h (Ev.packK l .no c) := by
      intro l
      induction l with
      | nl => exact fun c hc => hc _ _
      | cn y l ihy ihl => exact fun c hc => Keeps.intK Keeps.no fun _ _ => Keeps.cond (Keeps.natK Keeps.no fun _ => Keeps.cond (ihl _ fun _ _ => hc _ _) Keeps.no) Keeps.no
      | _ => exact fun c hc => Keeps.no
    exact this l c h2
theorem Keeps.rowK {ob : Ob} {p n : Nat} {c : Rw → R} (h2 : ∀ n, Keeps h (c n)) : Keeps h (rowK ob p n .no c) := by
  cases ob with
  | cells m t => exact Keeps.readK Keeps.no fun _ => h2 _
  | bytes m y => exact Keeps.cond (Keeps.forceN fun _ => h2 _) Keeps.no
  | _ => exact Keeps.no
theorem Keeps.firstK {es n : Nat} {y : AV} {c : Rw → R} (h2 : ∀ n, Keeps h (c n)) : Keeps h (firstK h es n y c) :=
  Keeps.cond (h2 _) (Keeps.slcK (Keeps.strK Keeps.no fun _ _ => Keeps.cond (Keeps.forceN fun _ => h2 _) Keeps.no) fun _ _ _ _ _ _ => Keeps.cond (Keeps.rowK h2) Keeps.no)
theorem Keeps.isSl {y : AV} {r : R} (h1 : Keeps h r) : Keeps h (isSl y r) := Keeps.slcK (Keeps.nilsK (Keeps.slxK Keeps.no fun _ => h1) h1) fun _ _ _ _ _ _ => h1
theorem Keeps.arg0 {l : List Operand} {c : AV → R} (h1 : ∀ y, Keeps h (c y)) : Keeps h (arg0 l f c) := by
  match l with
  | [] => exact Keeps.no
  | [y] => exact h1 _
  | _ :: _ :: _ => exact Keeps.no
theorem Keeps.len {ts : Array TypeId} {l : List Operand} : Keeps h (lenB P ts l f h) := by
  refine Keeps.arg0 fun y => ?_
  unfold lenR
  cases lenTs P ts with
  | arr n => exact Keeps.okI
  | map =>
    refine Keeps.mapK (Keeps.nilmK Keeps.no Keeps.okI) fun b => ?_
    unfold mapLenR; split
    · exact Keeps.okI
    · exact Keeps.no
  | sl => exact Keeps.slcK (Keeps.nilsK (Keeps.slxK Keeps.no fun _ => Keeps.okI) Keeps.okI) fun _ _ _ _ _ _ => Keeps.okI
  | st => exact Keeps.strK Keeps.no fun _ _ => Keeps.okI
  | bad => exact Keeps.no
theorem Keeps.cap {ts : Array TypeId} {l : List Operand} : Keeps h (capB P ts l f h) := by
  unfold capB
  cases ty0 P ts with
  | sl el =>
    refine Keeps.arg0 fun y => Keeps.slcK (Keeps.nilsK Keeps.no Keeps.okI) fun _ _ _ _ _ ex => ?_
    cases ex
    · exact Keeps.ok
    · exact Keeps.okI
  | _ => exact Keeps.no
theorem Keeps.mm {mx : Bool} {l : List Operand} : Keeps h (mm mx l f h) := by
  cases l with
  | nil => exact Keeps.no
  | cons y r =>
    refine Keeps.intK Keeps.no fun k z => ?_
    have : ∀ (r : List Operand) (z : Int), Keeps h (List.rec (motive := fun _ => Int → Ev.R) (fun z => Ev.okI k z h) (fun y _ ih z => (opd y f).intK .no fun j u => _root_.cond (Nat.beq (kN k) (kN j)) (ih (_root_.cond mx (if z < u then u else z) (if u < z then u else z))) .no) r z) := by
      intro r
      induction r with
      | nil => exact fun z => Keeps.okI
      | cons y r ih => exact fun z => Keeps.intK Keeps.no fun _ _ => Keeps.cond (ih _) Keeps.no
    exact this r z
end
end Go.Ev

/- Allocations, at once and later. -/
namespace Go.Ev
open Go Go.RowKit

/-- a context that has forgotten how many blocks there are -/
def Ctx.z (Γ : Ctx) : Ctx := ⟨Γ.σ, Γ.sz, Γ.lim, 0, Γ.wf⟩
theorem VR_z (Γ : Ctx) : ∀ x : AV, (∀ v, VR Γ.z x v ↔ VR Γ x v) ∧ (∀ vs, VRs Γ.z x vs ↔ VRs Γ x vs) := by
  intro x
  induction x with
  | fn f a c iha ihc =>
    refine ⟨fun v => ?_, fun vs => by simp [VRs]⟩
    simp only [VR]
    exact ⟨fun ⟨g, fs, cs, h1, h2, h3, h4⟩ => ⟨g, fs, cs, h1, (iha.2 _).1 h2, (ihc.2 _).1 h3, h4⟩, fun ⟨g, fs, cs, h1, h2, h3, h4⟩ => ⟨g, fs, cs, h1, (iha.2 _).2 h2, (ihc.2 _).2 h3, h4⟩⟩
  | ifc t x ih =>
    refine ⟨fun v => ?_, fun vs => by simp [VRs]⟩
    simp only [VR]
    exact ⟨fun ⟨u, h1, h2⟩ => ⟨u, h1, (ih.1 _).1 h2⟩, fun ⟨u, h1, h2⟩ => ⟨u, h1, (ih.1 _).2 h2⟩⟩
  | agg l ih =>
    refine ⟨fun v => ?_, fun vs => by simp [VRs]⟩
    simp only [VR]
    exact ⟨fun ⟨u, h1, h2⟩ => ⟨u, h1, (ih.2 _).1 h2⟩, fun ⟨u, h1, h2⟩ => ⟨u, h1, (ih.2 _).2 h2⟩⟩
  | tup l ih =>
    refine ⟨fun v => ?_, fun vs => by simp [VRs]⟩
    simp only [VR]
    exact ⟨fun ⟨u, h1, h2⟩ => ⟨u, h1, (ih.2 _).1 h2⟩, fun ⟨u, h1, h2⟩ => ⟨u, h1, (ih.2 _).2 h2⟩⟩
  | cn a l iha ihl =>
    refine ⟨fun v => by simp [VR], fun vs => ?_⟩
    simp only [VRs]
    exact ⟨fun ⟨u, r, h0, h1, h2⟩ => ⟨u, r, h0, (iha.1 _).1 h1, (ihl.2 _).1 h2⟩, fun ⟨u, r, h0, h1, h2⟩ => ⟨u, r, h0, (iha.1 _).2 h1, (ihl.2 _).2 h2⟩⟩
  | nl => exact ⟨fun v => by simp [VR], fun vs => by simp [VRs]⟩
  | ptr b o => exact ⟨fun v => by simp only [VR]; exact Iff.rfl, fun vs => by simp [VRs]⟩
  | slc b o n c es ex => exact ⟨fun v => by simp only [VR]; exact Iff.rfl, fun vs => by simp [VRs]⟩
  | map b => exact ⟨fun v => by simp only [VR]; exact Iff.rfl, fun vs => by simp [VRs]⟩
  | _ => exact ⟨fun v => by simp only [VR], fun vs => by simp [VRs]⟩
theorem VR.monoz {Γ Δ : Ctx} (h : Γ.z.Le Δ) {x : AV} {v : Value} (hv : VR Γ x v) : VR Δ x v := VR.mono h (((VR_z Γ x).1 v).2 hv)
theorem VRs.monoz {Γ Δ : Ctx} (h : Γ.z.Le Δ) {x : AV} {v : List Value} (hv : VRs Γ x v) : VRs Δ x v := VRs.mono h (((VR_z Γ x).2 v).2 hv)
theorem Ctx.Le.z {Γ Δ : Ctx} (h : Γ.Le Δ) : Γ.z.Le Δ := ⟨h.σ, h.lim, h.sz, Nat.zero_le _, fun b hb => absurd hb (Nat.not_lt_zero b)⟩
theorem MEs.monoz {Γ Δ : Ctx} (h : Γ.z.Le Δ) : ∀ (es : List ME) (ms : List MapEntry), MEs Γ es ms → MEs Δ es ms
  | [], ms, hm => hm
  | e :: r, ms, ⟨m, s, h0, h1, h2, h3, h4⟩ => ⟨m, s, h0, h1.monoz h, h2.monoz h, h3, MEs.monoz h r s h4⟩
theorem OR.monoz {Γ Δ : Ctx} (h : Γ.z.Le Δ) {q : Nat} {obj : Obj} {ob : Ob} (hr : OR Γ q obj ob) : OR Δ q obj ob := by
  cases ob with
  | none => exact hr
  | cells n t =>
    obtain ⟨h1, arr, el, h2, h3, h4⟩ := hr
    exact ⟨h1, arr, el, h2, h3, fun i hi => let ⟨v, a, b⟩ := h4 i hi; ⟨v, a, b.monoz h⟩⟩
  | bytes n x => exact hr
  | map es c =>
    obtain ⟨h1, arr, h2, h3⟩ := hr
    exact ⟨h1, arr, h2, h3.monoz h⟩
  | miter m s l t =>
    obtain ⟨h1, mc, h2, h3, h4⟩ := hr
    exact ⟨h1, mc, h2, h3, fun b hb => let ⟨c, a, d⟩ := h4 b hb; ⟨c, a, h.σ _ _ d⟩⟩
  | siter n s p => exact hr
  | dead => trivial
  | dfr => exact hr
  | loop st f ps a c =>
    obtain ⟨hq, r, nt, h1, h2, h3, h4, h5, h6, h7, h8⟩ := hr
    exact ⟨hq, r, nt, h1, h2, h3, h4, h5, h6, fun i => (h7 i).monoz h, h8⟩
theorem FR.monoz {nt : Nat} {Γ Δ : Ctx} {f : F} {a : Act} (h : Γ.z.Le Δ) (hf : FR nt Γ f a) : FR nt Δ f a := by
  refine ⟨fun i => (hf.get i).monoz h, ?_, hf.size, hf.small⟩
  have : ∀ (d : AV) (l : List Deferred), DR Γ d l → DR Δ d l := by
    intro d
    induction d with
    | nl => intro l hl; exact hl
    | cn a r iha ihr =>
      intro l hl
      simp only [DR] at hl ⊢
      obtain ⟨x, s, rfl, h0, h3⟩ := hl
      refine ⟨x, s, rfl, ?_, ihr s h3⟩
      rcases h0 with ⟨fn, args, cap, cs, g, rfl, ht, h1, h2, h4⟩ | ⟨b, c, rfl, ht, h1⟩
      · refine .inl ⟨fn, args, cap, cs, g, rfl, ht, h1.monoz h, h2.monoz h, ?_⟩
        cases fn <;> first | exact h4 | (obtain ⟨c, hc, rfl⟩ := h4; exact ⟨c, h.σ _ _ hc, rfl⟩)
      · exact .inr ⟨b, c, rfl, ht, h.σ _ _ h1⟩
    | _ => intro l hl; simp [DR] at hl
  exact this _ _ hf.ds

section
variable {P : Program} {N : Nat → Prop} {nt : Nat} {Γ Γ0 : Ctx} {h h' : Hp} {w w0 : World} {v : AV} {f g : F} {a : Act} {o : Oper} {callR : Nat → AV → Hp → R} {r : R} {x : X}

/-- the context in which a block that had a number alone is laid -/
def Ctx.lay (Γ : Ctx) (b c s : Nat) (h : Γ.lim ≤ c) : Ctx where
  σ := fun x => if x = b then some (c, 0) else Γ.σ x
  sz := fun x => if x = c then s else Γ.sz x
  lim := c + 1
  nb := Γ.nb
  wf := fun x d r hx => by
    split at hx
    · cases hx; omega
    · have := Γ.wf x d r hx; omega
theorem Ctx.z_lay (Γ : Ctx) {b c s : Nat} (h : Γ.lim ≤ c) (hb : Γ.σ b = none) : Γ.z.Le (Γ.lay b c s h) := by
  refine ⟨fun x y hx => ?_, by show Γ.lim ≤ c + 1; omega, fun d hd => ?_, Nat.zero_le _, fun x hx => absurd hx (Nat.not_lt_zero x)⟩
  · show (if x = b then _ else _) = _
    have hx : Γ.σ x = some y := hx
    rw [if_neg (fun e => by rw [e, hb] at hx; cases hx)]; exact hx
  · show (if d = c then _ else _) = _
    have hd : d < Γ.lim := hd
    rw [if_neg (by omega)]; rfl
theorem Ctx.le_lay {Γ0 Γ : Ctx} {b c s : Nat} (h0 : Γ0.Le Γ) (h : Γ.lim ≤ c) (hb : Γ.σ b = none) (hnb : Γ0.nb ≤ b) : Γ0.Le (Γ.lay b c s h) := by
  have hz := Γ.z_lay (s := s) h hb
  refine ⟨fun x y hx => hz.σ x y (h0.σ x y hx), Nat.le_trans h0.lim hz.lim, fun d hd => (hz.sz d (Nat.lt_of_lt_of_le hd h0.lim)).trans (h0.sz d hd), h0.nb, fun x hx hn => ?_⟩
  show (if x = b then _ else _) = _
  rw [if_neg (by omega)]; exact h0.none x hx hn
/-- the rest of the numbers alone stays as it is -/
theorem Ctx.lay_none {Γ : Ctx} {b c s x : Nat} (h : Γ.lim ≤ c) (hx : x ≠ b) (hn : Γ.σ x = none) : (Γ.lay b c s h).σ x = none := by
  show (if x = b then _ else _) = _
  rw [if_neg hx]; exact hn

theorem Rel.layAt (R : Rel N Γ h w) {b : Nat} {obj : Obj} {s : Nat} (hb : b < h.n) (hgb : gN ≤ b) (hσ : Γ.σ b = none) (hsz : ∀ arr el fz, obj = .cells arr el fz → arr.size = s)
    (hor : OR (Γ.lay b w.heap.size s (Nat.le_of_eq R.lim)) 0 obj (obAt b h)) :
    Rel N (Γ.lay b w.heap.size s (Nat.le_of_eq R.lim)) h { w with heap := w.heap.push obj } := by
  have hle := Γ.z_lay (b := b) (c := w.heap.size) (s := s) (Nat.le_of_eq R.lim) hσ
  have hold : ∀ b' c' q', (Γ.lay b w.heap.size s (Nat.le_of_eq R.lim)).σ b' = some (c', q') → (b' = b ∧ c' = w.heap.size ∧ q' = 0) ∨ (b' ≠ b ∧ Γ.σ b' = some (c', q')) := by
    intro b' c' q' hs
    change (if b' = b then _ else _) = _ at hs
    split at hs
    · rename_i e; cases hs; exact .inl ⟨e, rfl, rfl⟩
    · rename_i e; exact .inr ⟨e, hs⟩
  refine ⟨fun b' c' q' hs => ?_, fun d arr el fz hd hcell => ?_, fun b' c' q' hs => ?_, fun b1 b2 c' q1 q2 h1 h2 d1 d2 => ?_, fun b' c' q' hs hG => ?_, by show w.heap.size + 1 = _; simp, R.hn, R.gn, fun g hg => hle.σ _ _ (R.glob g hg), fun c hc => by have := R.base c hc; simp; omega, R.nb, fun b' c' q' t hs ht => ?_⟩
  · rcases hold _ _ _ hs with ⟨rfl, rfl, rfl⟩ | ⟨e, hs⟩
    · exact ⟨obj, by simp, hor⟩
    · obtain ⟨obj', ho', hr'⟩ := R.live b' c' q' hs
      have hlt := R.blockLt hs
      exact ⟨obj', by rw [Array.getElem?_push, if_neg (by omega)]; exact ho', hr'.monoz hle⟩
  · change d < w.heap.size + 1 at hd
    show arr.size = if d = w.heap.size then s else Γ.sz d
    by_cases e : d = w.heap.size
    · rw [if_pos e]; subst e
      rw [Array.getElem?_push_size] at hcell
      exact hsz arr el fz (by cases hcell; rfl)
    · rw [if_neg e]
      rw [Array.getElem?_push, if_neg e] at hcell
      exact R.szs d arr el fz (by have := R.lim; omega) hcell
  · rcases hold _ _ _ hs with ⟨rfl, _, _⟩ | ⟨e, hs⟩
    · exact hb
    · exact R.bnd b' c' q' hs
  · rcases hold _ _ _ h1 with ⟨e1, ec, _⟩ | ⟨e1, s1⟩ <;> rcases hold _ _ _ h2 with ⟨e2, ec2, _⟩ | ⟨e2, s2⟩
    · rw [e1, e2]
    · have := R.blockLt s2; omega
    · have := R.blockLt s1; omega
    · exact R.sep b1 b2 c' q1 q2 s1 s2 d1 d2
  · rcases hold _ _ _ hs with ⟨rfl, rfl, rfl⟩ | ⟨e, hs⟩
    · exact fun hN => Nat.lt_irrefl _ (R.base _ hN)
    · exact R.own b' c' q' hs hG
  · rcases hold _ _ _ hs with ⟨rfl, rfl, rfl⟩ | ⟨e, hs⟩
    · rfl
    · exact R.one b' c' q' t hs ht
end
end Go.Ev

/- Allocations: what they are, and how they run. -/
namespace Go.Ev
open Go Go.RowKit

/-- a piece that tells one object, whatever is done with it, or nothing -/
def Picks (K : (Ob → R) → R) : Prop := (∀ c, K c = .no) ∨ ∃ ob, ∀ c, K c = c ob
section
variable {P : Program} {N : Nat → Prop} {nt : Nat} {Γ Γ0 : Ctx} {h h' : Hp} {w w0 : World} {v : AV} {f g : F} {a : Act} {o : Oper} {callR : Nat → AV → Hp → R} {r : R} {x : X}

theorem Picks.no : Picks fun _ => .no := .inl fun _ => rfl
theorem Picks.one {ob : Ob} : Picks fun c => c ob := .inr ⟨ob, fun _ => rfl⟩
theorem Picks.cond {b : Bool} {K L : (Ob → R) → R} (h1 : Picks K) (h2 : Picks L) : Picks fun c => cond b (K c) (L c) := by cases b; exact h2; exact h1
theorem Picks.forceN {n : Nat} {K : Nat → (Ob → R) → R} (h1 : ∀ n, Picks (K n)) : Picks fun c => forceN n fun n => K n c := by
  rcases h1 n with h | ⟨ob, h⟩
  · exact .inl fun c => (forceN_eq n (fun n => K n c)).trans (h c)
  · exact .inr ⟨ob, fun c => (forceN_eq n (fun n => K n c)).trans (h c)⟩
theorem Picks.cnK {y : AV} {K : AV → AV → (Ob → R) → R} (h2 : ∀ i z, Picks (K i z)) : Picks fun c => y.cnK .no fun i z => K i z c := by cases y <;> first | exact Picks.no | exact h2 _ _
theorem Picks.cnK' {y : AV} {L : (Ob → R) → R} {K : AV → AV → (Ob → R) → R} (h1 : Picks L) (h2 : ∀ i z, Picks (K i z)) : Picks fun c => y.cnK (L c) fun i z => K i z c := by cases y <;> first | exact h1 | exact h2 _ _
theorem Picks.nlK {y : AV} {K L : (Ob → R) → R} (h1 : Picks K) (h2 : Picks L) : Picks fun c => y.nlK (K c) (L c) := by cases y <;> first | exact h2 | exact h1
theorem Picks.aggK {y : AV} {L : (Ob → R) → R} {K : AV → (Ob → R) → R} (h1 : Picks L) (h2 : ∀ i, Picks (K i)) : Picks fun c => y.aggK (L c) fun i => K i c := by cases y <;> first | exact h1 | exact h2 _
theorem Picks.cellsK {y : AV} {K : AV → (Ob → R) → R} (h2 : ∀ i, Picks (K i)) : Picks fun c => cellsK y .no fun i => K i c := Picks.aggK (Picks.cond Picks.no (h2 _)) h2
theorem Picks.intK {y : AV} {K : IntKind → Int → (Ob → R) → R} (h2 : ∀ i z, Picks (K i z)) : Picks fun c => y.intK .no fun i z => K i z c := by cases y <;> first | exact Picks.no | exact h2 _ _
theorem Picks.natK {z : Int} {K : Nat → (Ob → R) → R} (h2 : ∀ n, Picks (K n)) : Picks fun c => natK z .no fun n => K n c := by cases z; exact h2 _; exact Picks.no
theorem Picks.putK {ob : Ob} {p : Nat} {y : AV} {K : Ob → (Ob → R) → R} (h2 : ∀ b, Picks (K b)) : Picks fun c => putK ob p y .no fun b => K b c := by
  cases ob with
  | cells n t => exact Picks.cond (h2 _) Picks.no
  | bytes n x => exact Picks.cond (Picks.intK fun _ _ => Picks.cond (Picks.natK fun _ => Picks.cond (Picks.forceN fun _ => h2 _) Picks.no) Picks.no) Picks.no
  | _ => exact Picks.no
theorem Picks.putLK : ∀ (l : AV) (ob : Ob) (p : Nat), Picks fun c => putLK l .no c ob p := by
  intro l
  induction l with
  | nl => exact fun ob p => Picks.one
  | cn y l ihy ihl => exact fun ob p => Picks.cond (Picks.putK fun b => ihl b _) Picks.no
  | _ => exact fun ob p => Picks.no
theorem Picks.packK {K : Nat → Nat → (Ob → R) → R} : ∀ (l : AV) (K : Nat → Nat → (Ob → R) → R), (∀ n m, Picks (K n m)) → Picks fun c => packK l .no fun n m => K n m c := by
  intro l
  induction l with
  | nl => exact fun K h2 => h2 _ _
  | cn y l ihy ihl => exact fun K h2 => Picks.intK fun _ _ => Picks.cond (Picks.natK fun _ => Picks.cond (ihl (fun n m => K (Nat.succ n) _) fun _ _ => h2 _ _) Picks.no) Picks.no
  | _ => exact fun K h2 => Picks.no
theorem Picks.mkCells {l : AV} : Picks fun c => mkCells l c := Picks.forceN fun _ => Picks.cond Picks.one (Picks.cond (Picks.putLK l _ _) Picks.no)
theorem Picks.mkK {bt : Bool} {l : AV} : Picks fun c => mkK bt l c := by
  cases bt
  · exact Picks.mkCells
  · exact Picks.packK (K := fun _ _ c => c .none) l (fun n x c => Ev.forceN n fun n => Ev.forceN x fun x => c (.bytes n x)) fun _ _ => Picks.forceN fun _ => Picks.forceN fun _ => Picks.one
theorem Picks.zerosK {el : TypeId} {n : Nat} : Picks fun c => zerosK P el n c := by
  refine Picks.cellsK fun zl => Picks.cond ?_ Picks.no
  cases byteTy P el
  · exact Picks.cnK' Picks.mkK fun z r => Picks.nlK (Picks.cond (Picks.forceN fun _ => Picks.cond Picks.one Picks.no) Picks.mkK) (Picks.cond Picks.one Picks.no)
  · exact Picks.forceN fun _ => Picks.one

/-- what an allocation is: an object, and a value of a block's number -/
structure AllocIs (P : Program) (op : Op) (f : F) (ob : Ob) (mk : Nat → AV) : Prop where
  run : ∀ h : Hp, h.n < 83521 → exO P op f h = .ok (mk h.n) ⟨setT h.n ob h.t, h.n + 1⟩
  blk : ∀ b, blkK (mk b) none some = some b
/-- how it runs -/
def AllocRun (P : Program) (Γ : Ctx) (w : World) (a : Act) (o : Oper) (ob : Ob) (mk : Nat → AV) : Prop :=
  ∃ us el val, (∀ Δ, Γ.z.Le Δ → ObFor Δ us ob) ∧ (execOp a.eval o).run P w = .ok (.value val) { w with heap := w.heap.push (.cells us.toArray el (0, 0)) } ∧ ∀ Δ b, Δ.σ b = some (w.heap.size, 0) → VR Δ (mk b) val
def Allocs (P : Program) (o : Oper) (f : F) (h : Hp) (v : AV) (h' : Hp) : Prop :=
  ∃ ob mk, AllocIs P o.op f ob mk ∧ h.n < 83521 ∧ v = mk h.n ∧ h' = ⟨setT h.n ob h.t, h.n + 1⟩ ∧ ∀ N nt Γ w h2 a, Rel N Γ h2 w → FR nt Γ f a → AllocRun P Γ w a o ob mk

theorem newR_run {ob : Ob} {mk : Nat → AV} (hn : h.n < 83521) : newR ob h (fun i h => .ok (mk i) h) = .ok (mk h.n) ⟨setT h.n ob h.t, h.n + 1⟩ := by
  unfold newR
  rw [show Nat.ble (Nat.succ h.n) 83521 = true from Nat.ble_eq_true_of_le hn, forceN_eq]; rfl
theorem newR_ob {ob ob2 : Ob} {mk : Nat → AV} (h1 : newR ob h (fun i h => .ok (mk i) h) = .ok v h') (h2 : newR ob2 h (fun i h => .ok (mk i) h) = .ok v h') : ob = ob2 := by
  obtain ⟨hn, e1⟩ := newR_inv h1 ok_ne_no
  obtain ⟨_, e2⟩ := newR_inv h2 ok_ne_no
  obtain ⟨_, e3⟩ := ok_inj e1
  obtain ⟨_, e4⟩ := ok_inj e2
  rw [← e4] at e3
  have := congrArg (obAt h.n) e3
  rwa [obAt_setT_same, obAt_setT_same] at this
theorem run_newRow {el : TypeId} {us : List Value} : (newRow el us.toArray).run P w = .ok ⟨w.heap.size, 0, none⟩ { w with heap := w.heap.push (.cells us.toArray el (0, 0)) } := by simp [newRow]

theorem alloc_allocs {el : TypeId} (ho : o.op = .alloc el) (e : exO P o.op f h = .ok v h') : Allocs P o f h v h' := by
  have e0 := e
  rw [ho] at e
  have e : zerosK P el 1 (fun ob => newR ob h fun i h => .ok (.ptr i 0) h) = .ok v h' := e
  rcases Picks.zerosK (P := P) (el := el) (n := 1) with hp | ⟨ob, hp⟩
  · exact (no_ok (e := (hp _).symm.trans e)).elim
  · have e1 : newR ob h (fun i h => .ok (AV.ptr i 0) h) = .ok v h' := (hp (fun ob => newR ob h fun i h => .ok (.ptr i 0) h)).symm.trans e
    obtain ⟨hn, e2⟩ := newR_inv e1 ok_ne_no
    obtain ⟨rfl, rfl⟩ := ok_inj e2
    refine ⟨ob, fun b => .ptr b 0, ⟨fun h2 hn2 => ?_, fun b => rfl⟩, hn, rfl, rfl, fun N nt Γ w h2 a hR hf => ?_⟩
    · rw [ho]
      exact (hp (fun ob => newR ob h2 fun i h => .ok (.ptr i 0) h)).trans (newR_run (mk := fun b => .ptr b 0) hn2)
    · obtain ⟨z, ob2, hz, hlen, e3, hob⟩ := zerosK_inv (w := w) e ok_ne_no
      have := newR_ob (mk := fun b => .ptr b 0) e1 e3; subst this
      refine ⟨rep 1 z.cells.toList, el, .pointer (some ⟨w.heap.size, 0, none⟩), fun Δ _ => hob Δ, ?_, fun Δ b hb => by simp only [VR]; exact ⟨_, _, hb, by simp⟩⟩
      rw [rep_one]
      simp [execOp, ho, Instr.alloc, hz, newVar, newRow]
theorem makeSlice_allocs {t : TypeId} {y z : Operand} (ho : o.op = .makeSlice t y z) (e : exO P o.op f h = .ok v h') : Allocs P o f h v h' := by
  rw [ho] at e
  have e : exMakeSlice P t y z f h = .ok v h' := e
  unfold exMakeSlice at e
  cases ht : tyOf P t with
  | sl el =>
    rw [ht] at e
    obtain ⟨hu, hel⟩ := tyOf_sl ht
    obtain ⟨j1, l, hx, e2⟩ := natI_inv (show natI (opd y f) _ = _ from e) ok_ne_no
    obtain ⟨j2, c, hy, e3⟩ := natI_inv e2 ok_ne_no
    obtain ⟨hlc, e4⟩ := ble_inv e3 ok_ne_no
    obtain ⟨hcb, e5⟩ := cond_inv e4 ok_ne_no
    have hcb0 := hcb
    rw [Bool.and_eq_true] at hcb
    have hc := ble_t hcb.1
    rcases Picks.zerosK (P := P) (el := el) (n := c) with hp | ⟨ob, hp⟩
    · exact (no_ok (e := (hp _).symm.trans e5)).elim
    · have e6 : newR ob h (fun i h => .ok (AV.slc i 0 l c (szOf P el) true) h) = .ok v h' := (hp (fun ob => newR ob h fun i h => .ok (.slc i 0 l c (szOf P el) true) h)).symm.trans e5
      obtain ⟨hn, e7⟩ := newR_inv e6 ok_ne_no
      obtain ⟨rfl, rfl⟩ := ok_inj e7
      refine ⟨ob, fun b => .slc b 0 l c (szOf P el) true, ⟨fun h2 hn2 => ?_, fun b => rfl⟩, hn, rfl, rfl, fun N nt Γ w h2 a hR hf => ?_⟩
      · rw [ho]
        show exMakeSlice P t y z f h2 = _
        unfold exMakeSlice
        rw [ht]
        show natI (opd y f) _ = _
        rw [hx]
        show natI (opd z f) _ = _
        rw [hy]
        show cond (Nat.ble l c) _ _ = _
        rw [show Nat.ble l c = true from Nat.ble_eq_true_of_le hlc, cond_true, hcb0, cond_true]
        exact (hp (fun ob => newR ob h2 fun i h => .ok (.slc i 0 l c (szOf P el) true) h)).trans (newR_run (mk := fun b => .slc b 0 l c (szOf P el) true) hn2)
      · have hxr := opd_rel hR hf y
        have hyr := opd_rel hR hf z
        obtain ⟨zv, ob2, hz, hlen, e8, hob⟩ := zerosK_inv (w := w) e5 ok_ne_no
        have := newR_ob (mk := fun b => .slc b 0 l c (szOf P el) true) e6 e8; subst this
        rw [hx] at hxr; rw [hy] at hyr; simp only [VR] at hxr hyr
        refine ⟨rep c zv.cells.toList, el, .slice (some ⟨w.heap.size, 0, none⟩) l c, fun Δ _ => hob Δ, ?_, fun Δ b hb => by
          simp only [VR]; exact ⟨_, 0, c, hb, by simp, hlc, fun _ => rfl, fun hh => by cases hh⟩⟩
        have h3 := run_newRow (P := P) (w := w) (el := el) (us := rep c zv.cells.toList)
        obtain ⟨i, hi⟩ := Option.ne_none_iff_exists'.1 hel
        have hb : i.bytes ≤ 65536 := by have := ble_t hcb.2; simpa [byOf, hi] using this
        have w1 : IntKind.i64.wrap (Int.ofNat l) = Int.ofNat l := wrap_fit .i64 l (by show l ≤ 9223372036854775807; omega)
        have w2 : IntKind.i64.wrap (Int.ofNat c) = Int.ofNat c := wrap_fit .i64 c (by show c ≤ 9223372036854775807; omega)
        have hprod : i.bytes * c ≤ 65536 * 16777216 := Nat.mul_le_mul hb hc
        have hcells : (Array.range (c * szOf P el)).map (fun i => (if c * szOf P el = 0 then #[] else zv.cells)[i % (if c * szOf P el = 0 then #[] else zv.cells).size]!) = (rep c zv.cells.toList).toArray := by
          by_cases h0 : c * szOf P el = 0
          · rw [h0]
            have : rep c zv.cells.toList = [] := List.eq_nil_of_length_eq_zero (by rw [rep_length, hlen, h0])
            rw [this]; simp
          · rw [if_neg h0]
            have := range_mod c zv.cells.toList
            rw [hlen] at this
            apply Array.toList_inj.1
            simpa using this
        have tl1 : ¬ (((Int.ofNat c < 0 ∨ ((i.bytes : Int) * Int.ofNat c > 2 ^ 48)) ∨ Int.ofNat l < 0) ∨ Int.ofNat l > Int.ofNat c) := by
          have : ((i.bytes * c : Nat) : Int) ≤ ((65536 * 16777216 : Nat) : Int) := Int.ofNat_le.2 hprod
          have e : (i.bytes : Int) * Int.ofNat c = ((i.bytes * c : Nat) : Int) := by simp
          rw [e]
          simp only [Int.ofNat_eq_natCast]
          omega
        simp only [execOp, ho, Instr.makeSlice, hxr, hyr, asInt, asIntOf, Sem.run_bind, Sem.run_pure, run_underlying' hu, Result.andThen_ok, run_typeInfo hi, w1, w2, Bool.or_eq_true, decide_eq_true_eq, Sem.run_ite, if_neg tl1, run_askRoom, szOf_info hel]
        by_cases h0 : c * szOf P el = 0
        · have hr0 : rep c zv.cells.toList = [] := List.eq_nil_of_length_eq_zero (by rw [rep_length, hlen, h0])
          rw [hr0] at h3
          have hr1 : Array.map (fun _ : Nat => (default : Value)) (Array.range 0) = #[] := Array.eq_empty_of_size_eq_zero (by simp)
          simp [h0] at h3 ⊢
          simp [hr1, h3, hr0]
        · have := hcells
          rw [if_neg h0] at this
          simp only [show (Int.ofNat c).toNat = c from rfl, show (Int.ofNat l).toNat = l from rfl, if_neg h0, Sem.run_bind, hz, Sem.run_pure, Result.andThen_ok, this, h3]
  | ar n el => rw [ht] at e; exact (no_ok (e := e)).elim
  | st => rw [ht] at e; exact (no_ok (e := e)).elim
  | bad => rw [ht] at e; exact (no_ok (e := e)).elim
theorem Picks.fillL {place size : Nat → Nat} {K : AV → (Ob → R) → R} (h2 : ∀ l, Picks (K l)) : ∀ (ps : List (Nat × Operand)) (cells : AV), Picks fun c => fillL place size f ps (fun l => K l c) cells
  | [], _ => h2 _
  | p :: ps, cells => by
    have key : ∀ c, Ev.fillL place size f (p :: ps) (fun l => K l c) cells = Ev.cellsK (opd p.2 f) Ev.R.no fun xs =>
        _root_.cond (Bool.and (Nat.beq (lenL xs) (size p.1)) (Nat.ble (Nat.add (place p.1) (size p.1)) (lenL cells)))
          (Ev.fillL place size f ps (fun l => K l c) (appL (takeL (place p.1) cells) (appL xs (dropL (Nat.add (place p.1) (size p.1)) cells)))) .no := fun c => rfl
    simp only [key]
    exact Picks.cellsK fun _ => Picks.cond (Picks.fillL h2 ps _) Picks.no
theorem buildSlice_allocs {t : TypeId} {len : Nat} {ps : Array (Nat × Operand)} (ho : o.op = .buildSlice t len ps) (e : exO P o.op f h = .ok v h') : Allocs P o f h v h' := by
  rw [ho] at e
  have e : exBuildSlice P t len ps f h = .ok v h' := e
  unfold exBuildSlice at e
  cases ht : tyOf P t with
  | sl el =>
    rw [ht] at e
    have hpick : Picks fun c => cellsK (zeroOf P el) .no fun zl => cond (Nat.beq (lenL zl) (szOf P el)) (cond (Nat.ble (Nat.mul len (szOf P el)) 16777216) (fillL (fun i => Nat.mul i (szOf P el)) (fun _ => szOf P el) f ps.toList (fun l => mkK (byteTy P el) l c) (repL len zl)) .no) .no :=
      Picks.cellsK fun zl => Picks.cond (Picks.cond (Picks.fillL (K := fun l c => mkK (byteTy P el) l c) (fun l => Picks.mkK) _ _) Picks.no) Picks.no
    rcases hpick with hp | ⟨ob, hp⟩
    · exact (no_ok (e := (hp _).symm.trans e)).elim
    · have e6 : newR ob h (fun i h => .ok (AV.slc i 0 len len (szOf P el) true) h) = .ok v h' := (hp (fun ob => newR ob h fun i h => .ok (.slc i 0 len len (szOf P el) true) h)).symm.trans e
      obtain ⟨hn, e7⟩ := newR_inv e6 ok_ne_no
      have e7' := e7
      obtain ⟨hv0, hh0⟩ := ok_inj e7
      subst hv0; subst hh0
      refine ⟨ob, fun b => .slc b 0 len len (szOf P el) true, ⟨fun h2 hn2 => ?_, fun b => rfl⟩, hn, rfl, rfl, fun N nt Γ w h2 a hR hf => ?_⟩
      · rw [ho]
        show exBuildSlice P t len ps f h2 = _
        unfold exBuildSlice
        rw [ht]
        exact (hp (fun ob => newR ob h2 fun i h => .ok (.slc i 0 len len (szOf P el) true) h)).trans (newR_run (mk := fun b => .slc b 0 len len (szOf P el) true) hn2)
      · obtain ⟨hu, hel⟩ := tyOf_sl ht
        obtain ⟨z, zl, hz, e2, hzl, _⟩ := zeroOf_inv (w := w) (show cellsK (zeroOf P el) Ev.R.no _ = _ from e) ok_ne_no
        obtain ⟨hlz, e3⟩ := beq_inv e2 ok_ne_no
        obtain ⟨hmax, e4⟩ := ble_inv e3 ok_ne_no
        have hlen : z.cells.toList.length = szOf P el := by rw [← lenL_vals (Γ := Γ) zl _ (hzl _)]; exact hlz
        obtain ⟨l', us', e5, h3, h4⟩ := fillL_ok (pl := fun i => some (i * szOf P el, szOf P el)) hR hf ok_ne_no ps.toList (repL len zl) (rep len z.cells.toList).toArray (fun p hp => rfl) (by simpa using repL_vals len (hzl Γ)) e4
        obtain ⟨ob2, e8, hob⟩ := mkK_inv e5 ok_ne_no
        have := newR_ob (mk := fun b => .slc b 0 len len (szOf P el) true) e6 e8; subst this
        refine ⟨us'.toList, el, .slice (some ⟨w.heap.size, 0, none⟩) len len, fun Δ hle => hob Δ _ (h4.monoz hle), ?_, fun Δ b hb => by
          simp only [VR]; exact ⟨_, 0, len, hb, by simp, Nat.le_refl _, fun _ => rfl, fun hh => by cases hh⟩⟩
        have h5 := run_newRow (P := P) (w := w) (el := el) (us := us'.toList)
        simp only [Array.toArray_toList] at h5 ⊢
        have hps : (Array.map (fun x => (x.1, a.eval x.2)) ps).toList = List.map (fun p => (p.1, a.eval p.2)) ps.toList := by simp
        have hmax' : ¬ len * szOf P el > 2 ^ 24 := by have : len * szOf P el ≤ 16777216 := hmax; omega
        have hcells : Array.map (fun i => (if len * szOf P el = 0 then #[] else z.cells)[i % (if len * szOf P el = 0 then #[] else z.cells).size]!) (Array.range (len * szOf P el)) = (rep len z.cells.toList).toArray := by
          by_cases h0 : len * szOf P el = 0
          · rw [h0]
            have : rep len z.cells.toList = [] := List.eq_nil_of_length_eq_zero (by rw [rep_length, hlen, h0])
            rw [this]; simp
          · rw [if_neg h0]
            have := range_mod len z.cells.toList
            rw [hlen] at this
            apply Array.toList_inj.1
            simpa using this
        by_cases h0 : len * szOf P el = 0
        · rw [if_pos h0] at hcells
          simp only [execOp, ho, Instr.buildSlice, Sem.run_bind, run_underlying' hu, Result.andThen_ok, szOf_info hel, Sem.run_ite, if_neg hmax', if_pos h0, Sem.run_pure, hcells, hps, h3, h5]
        · rw [if_neg h0] at hcells
          simp only [execOp, ho, Instr.buildSlice, Sem.run_bind, run_underlying' hu, Result.andThen_ok, szOf_info hel, Sem.run_ite, if_neg hmax', if_neg h0, hz, Sem.run_pure, hcells, hps, h3, h5]
  | ar n el => rw [ht] at e; exact (no_ok (e := e)).elim
  | st => rw [ht] at e; exact (no_ok (e := e)).elim
  | bad => rw [ht] at e; exact (no_ok (e := e)).elim
theorem cls_alloc (hcl : clsOf P o = .alloc) (e : exO P o.op f h = .ok v h') : o.guard = none ∧ (∃ d, o.dst = some d) ∧ Allocs P o f h v h' := by
  have hgd : (∀ c : Cls, (match o.guard, o.dst with | none, some _ => Cls.alloc | _, _ => .eff) = .alloc → o.guard = none ∧ ∃ d, o.dst = some d) := fun c hh => by
    cases hg : o.guard with
    | some _ => rw [hg] at hh; cases hh
    | none =>
      cases hd : o.dst with
      | none => rw [hg, hd] at hh; cases hh
      | some d => exact ⟨rfl, d, rfl⟩
  unfold clsOf at hcl
  cases ho : o.op with
  | alloc el => rw [ho] at hcl; obtain ⟨h1, h2⟩ := hgd .alloc hcl; exact ⟨h1, h2, alloc_allocs ho e⟩
  | makeSlice t y z => rw [ho] at hcl; obtain ⟨h1, h2⟩ := hgd .alloc hcl; exact ⟨h1, h2, makeSlice_allocs ho e⟩
  | buildSlice t n ps => rw [ho] at hcl; obtain ⟨h1, h2⟩ := hgd .alloc hcl; exact ⟨h1, h2, buildSlice_allocs ho e⟩
  | convert s d y => rw [ho] at hcl; simp only at hcl; split at hcl <;> cases hcl
  | call c => rw [ho] at hcl; simp only at hcl; split at hcl <;> cases hcl
  | store t y z => rw [ho] at hcl; simp only at hcl; split at hcl <;> cases hcl
  | _ => rw [ho] at hcl; cases hcl
end
end Go.Ev

/- Pure operations; guards; checks done again. -/
namespace Go.Ev
open Go Go.RowKit

section
variable {P : Program} {N : Nat → Prop} {nt : Nat} {Γ Γ0 : Ctx} {h h' : Hp} {w w0 : World} {v : AV} {f g : F} {a : Act} {o : Oper} {callR : Nat → AV → Hp → R} {r : R} {x : X}

theorem noPan_ok {x : Ev.R} (e : noPan x = .ok v h') : x = .ok v h' := by
  obtain ⟨v', h'', h1, h2⟩ := noPan_inv e R.good_ok
  cases h2; exact h1
theorem callOK_none : CallOK P N (fun _ _ _ => .no) := ⟨fun g args h Γ w vs r e hr _ _ => absurd e.symm (R.good_ne hr), fun g b c args h Γ w vs r e hr _ _ _ => absurd e.symm (R.good_ne hr)⟩
theorem builtinC_ok (hR : Rel N Γ h w) (hf : FR nt Γ f a) {c : Call} (ho : o.op = .call c) (e : exBuiltinC P c f h = .ok v h') : Gives P N Γ w (execOp a.eval o) v h' := by
  obtain ⟨callee, args, ats⟩ := c
  have hmap : args.map a.eval = (args.toList.map a.eval).toArray := by apply Array.ext'; simp
  cases callee with
  | builtin b =>
    have e1 := noPan_ok (show noPan (exBuiltin P b ats args.toList f h) = .ok v h' from e)
    have key : ∀ cs, Gives P N Γ w (builtin b ats o.type cs (args.toList.map a.eval).toArray) v h' := fun cs => builtin_ok hR hf e1
    have hrun : (execOp a.eval o).run P w = (builtin b ats o.type (args.map (fun x => match x with | .const _ => true | _ => false)) (args.toList.map a.eval).toArray).run P w := by
      simp only [execOp, ho, resolve, invoke, Sem.run_bind, Sem.run_pure, Result.andThen_ok, hmap]
      congr 2
    have := key (args.map (fun x => match x with | .const _ => true | _ => false))
    unfold Gives at *
    rw [hrun]; exact this
  | _ => exact (no_ok (e := e)).elim

theorem exPure_ok (hcl : clsOf P o = .pure) (hR : Rel N Γ h w) (hf : FR nt Γ f a) (e : exPure P o.op f h = .ok v h') : h' = h ∧ Gives P N Γ w (execOp a.eval o) v h := by
  have fin : ∀ h', exPure P o.op f h = .ok v h' → Keeps h (exPure P o.op f h) → Gives P N Γ w (execOp a.eval o) v h' → h' = h ∧ Gives P N Γ w (execOp a.eval o) v h := fun h' e hk hg => by
    have := hk _ _ e; subst this; exact ⟨rfl, hg⟩
  have plain : (∀ c, o.op ≠ .call c) → exPure P o.op f h = exO P o.op f h ∨ exPure P o.op f h = .no := fun hne => by
    cases ho : o.op <;> first | exact .inl rfl | exact .inr rfl | exact absurd ho (hne _)
  have go : (∀ c, o.op ≠ .call c) → Keeps h (exO P o.op f h) → h' = h ∧ Gives P N Γ w (execOp a.eval o) v h := fun hne hk => by
    rcases plain hne with hp | hp
    · exact fin h' e (by rw [hp]; exact hk) (exO_ok hR hf (by rw [← hp]; exact e))
    · rw [hp] at e; exact (no_ok (e := e)).elim
  cases ho : o.op with
  | move y => exact go (fun c hh => by rw [ho] at hh; cases hh) (by rw [ho]; exact Keeps.ok)
  | pick c y z => exact go (fun c hh => by rw [ho] at hh; cases hh) (by rw [ho]; exact Keeps.boolK Keeps.no fun t => by cases t <;> exact Keeps.ok)
  | load t y => exact go (fun c hh => by rw [ho] at hh; cases hh) (by rw [ho]; exact Keeps.ptrK Keeps.no fun _ _ => Keeps.ag (Keeps.readK Keeps.no fun _ => Keeps.ok) (Keeps.cellK Keeps.no fun _ => Keeps.ok) Keeps.no)
  | nilCheck y => exact go (fun c hh => by rw [ho] at hh; cases hh) (by rw [ho]; exact Keeps.ptrK (Keeps.ifcK (Keeps.fnK Keeps.no fun g _ _ => by cases g <;> first | exact Keeps.ok | exact Keeps.no) fun _ _ => Keeps.ok) fun _ _ => Keeps.ok)
  | binOp op t y z t' =>
    refine go (fun c hh => by rw [ho] at hh; cases hh) (by
      rw [ho]
      intro v' h'' e'
      exact (binV_ok hR (show binV op P t (Bool.or (isK y) (isK z)) (opd y f) (opd z f) h = .ok v' h'' from e') rfl (opd_rel hR hf y) (opd_rel hR hf z)).1)
  | unOp op t y => exact go (fun c hh => by rw [ho] at hh; cases hh) (by rw [ho]; cases op <;> first | exact Keeps.intK Keeps.no fun _ _ => Keeps.okI | exact Keeps.boolK Keeps.no (fun t => by cases t <;> exact Keeps.ok) | exact Keeps.no)
  | makeInterface t y => exact go (fun c hh => by rw [ho] at hh; cases hh) (by
      rw [ho]; show Keeps h (exIface P t y f h); unfold exIface; split <;> first | exact Keeps.no | exact Keeps.ok)
  | makeFunc fn p c => exact go (fun c hh => by rw [ho] at hh; cases hh) (by rw [ho]; exact Keeps.cond Keeps.no Keeps.ok)
  | slice t y lo hi mx => exact go (fun c hh => by rw [ho] at hh; cases hh) (by rw [ho]; exact Keeps.slice)
  | fieldAddr t y i => exact go (fun c hh => by rw [ho] at hh; cases hh) (by rw [ho]; exact Keeps.cond (Keeps.ptrK Keeps.no fun _ _ => Keeps.forceN fun _ => Keeps.ok) Keeps.no)
  | field t y i => exact go (fun c hh => by rw [ho] at hh; cases hh) (by rw [ho]; exact Keeps.cond (Keeps.aggK Keeps.no fun _ => Keeps.partR) Keeps.no)
  | indexAddr t y z => exact go (fun c hh => by rw [ho] at hh; cases hh) (by
      rw [ho]; show Keeps h (exIndexAddr P t y z f h); unfold exIndexAddr
      cases tyOf P t with
      | sl el => exact Keeps.slcK Keeps.no fun _ _ _ _ _ _ => Keeps.cond (Keeps.intK Keeps.no fun _ _ => Keeps.natK Keeps.no fun _ => Keeps.cond (Keeps.forceN fun _ => Keeps.ok) Keeps.no) Keeps.no
      | ar n el => exact Keeps.ptrK Keeps.no fun _ _ => Keeps.intK Keeps.no fun _ _ => Keeps.natK Keeps.no fun _ => Keeps.cond (Keeps.forceN fun _ => Keeps.ok) Keeps.no
      | _ => exact Keeps.no)
  | index t y z => exact go (fun c hh => by rw [ho] at hh; cases hh) (by
      rw [ho]; show Keeps h (exIndex P t y z f h); unfold exIndex
      cases tyOf P t with
      | ar n el => exact Keeps.aggK Keeps.no fun _ => Keeps.intK Keeps.no fun _ _ => Keeps.natK Keeps.no fun _ => Keeps.cond Keeps.partR Keeps.no
      | st => exact Keeps.strK Keeps.no fun _ _ => Keeps.intK Keeps.no fun _ _ => Keeps.natK Keeps.no fun _ => Keeps.cond (Keeps.forceN fun _ => Keeps.okI) Keeps.no
      | _ => exact Keeps.no)
  | lookup t m k ok => exact go (fun c hh => by rw [ho] at hh; cases hh) (by rw [ho]; exact Keeps.lookup)
  | typeAssert y s t ok => exact go (fun c hh => by rw [ho] at hh; cases hh) (by rw [ho]; exact Keeps.assert (s := s))
  | extract y i => exact go (fun c hh => by rw [ho] at hh; cases hh) (by rw [ho]; exact Keeps.tupK Keeps.no fun _ => Keeps.cond Keeps.ok Keeps.no)
  | build t ps => exact go (fun c hh => by rw [ho] at hh; cases hh) (by rw [ho]; exact Keeps.build)
  | sliceToArrayPointer t y => exact go (fun c hh => by rw [ho] at hh; cases hh) (by
      rw [ho]; show Keeps h (exS2ap P t y f h); unfold exS2ap
      cases tyOf P t with
      | ar n el => exact Keeps.slcK Keeps.no fun _ _ _ _ _ _ => Keeps.cond (Keeps.cond Keeps.ok Keeps.no) Keeps.no
      | _ => exact Keeps.no)
  | convert s d y =>
    refine go (fun c hh => by rw [ho] at hh; cases hh) ?_
    rw [ho]; show Keeps h (exConv P s d y f h)
    unfold clsOf at hcl
    rw [ho] at hcl
    simp only at hcl
    unfold exConv
    cases hcv : cvOf P s d with
    | int k => exact Keeps.convI
    | flt k => exact Keeps.intK Keeps.no fun _ _ => Keeps.ok
    | str => exact Keeps.intK (Keeps.strK Keeps.no fun _ _ => Keeps.ok) fun _ _ => Keeps.ok
    | strB => exact Keeps.isSl (Keeps.lenK Keeps.no fun _ => Keeps.firstK fun _ => Keeps.packK (α := Unit) fun _ _ => Keeps.strR)
    | _ => rw [hcv] at hcl; cases hcl
  | call c =>
    have e1 : exBuiltinC P c f h = .ok v h' := by rw [ho] at e; exact e
    have hg := builtinC_ok hR hf ho e1
    obtain ⟨callee, args, ats⟩ := c
    cases callee with
    | builtin b =>
      have e2 := noPan_ok (show noPan (exBuiltin P b ats args.toList f h) = .ok v h' from e1)
      have hk : Keeps h (exBuiltin P b ats args.toList f h) := by
        unfold clsOf at hcl
        rw [ho] at hcl
        simp only at hcl
        cases b with
        | len => exact Keeps.len
        | cap => exact Keeps.cap
        | max => exact Keeps.mm
        | min => exact Keeps.mm
        | _ => cases hcl
      have := hk _ _ e2
      subst this; exact ⟨rfl, hg⟩
    | _ => exact (no_ok (e := e1)).elim
  | alloc el => unfold clsOf at hcl; rw [ho] at hcl; simp only at hcl; split at hcl <;> cases hcl
  | makeSlice t y z => unfold clsOf at hcl; rw [ho] at hcl; simp only at hcl; split at hcl <;> cases hcl
  | buildSlice t n ps => unfold clsOf at hcl; rw [ho] at hcl; simp only at hcl; split at hcl <;> cases hcl
  | store t y z => unfold clsOf at hcl; rw [ho] at hcl; simp only at hcl; split at hcl <;> cases hcl
  | _ => unfold clsOf at hcl; rw [ho] at hcl; cases hcl

/-! guards, on frames -/
def GYes (ops : Array Oper) (o : Oper) (f : F) : Prop := ∀ y n : X, guardX ops o.guard f y n = y
def GNo (ops : Array Oper) (o : Oper) (f : F) : Prop := ∀ y n : X, guardX ops o.guard f y n = n
theorem guard_split {ops : Array Oper} {y n : X} (e : guardX ops o.guard f y n = x) (hx : x.good) : (GYes ops o f ∧ y = x) ∨ (GNo ops o f ∧ n = x) := by
  unfold GYes GNo
  cases hg : o.guard with
  | none => rw [hg] at e; exact .inl ⟨fun _ _ => rfl, e⟩
  | some p =>
    obtain ⟨j, want⟩ := p
    rw [hg] at e
    change gTest (gslot ops j) want f y n = x at e
    show ((∀ y n : X, gTest (gslot ops j) want f y n = y) ∧ _) ∨ ((∀ y n : X, gTest (gslot ops j) want f y n = n) ∧ _)
    cases hs : gslot ops j with
    | none => rw [hs] at e; exact .inr ⟨fun _ _ => rfl, e⟩
    | some d =>
      rw [hs] at e
      cases hd : F.get d f with
      | bool b =>
        simp only [gTest, hd] at e ⊢
        cases b <;> cases want <;> first | exact .inl ⟨fun _ _ => rfl, e⟩ | exact .inr ⟨fun _ _ => rfl, e⟩
      | tup l =>
        simp only [gTest, hd] at e ⊢
        obtain ⟨rfl, e2⟩ := AV.nlK_inv (show l.nlK X.no n = x from e) (X.good_ne hx)
        exact .inr ⟨fun _ _ => rfl, e2⟩
      | _ => simp only [gTest, hd] at e; exact absurd e.symm (X.good_ne hx)
theorem GYes.wanted {ops : Array Oper} (hf : FR nt Γ f a) (hg : GYes ops o f) : Region.wanted o (yielded ops a.tmps) = true := by
  rcases guardX_inv (o := o) hf (hg (.exit 0 f ⟨Ev.N.all (Ev.N.all (Ev.N.all (Ev.N.all .none))), 0⟩) (.exit 1 f ⟨Ev.N.all (Ev.N.all (Ev.N.all (Ev.N.all .none))), 0⟩)) (fun s hs => by cases hs) with h | h
  · exact h.1
  · exact absurd h.2 (fun e => by cases e)
theorem GNo.wanted {ops : Array Oper} (hf : FR nt Γ f a) (hg : GNo ops o f) : Region.wanted o (yielded ops a.tmps) = false := by
  rcases guardX_inv (o := o) hf (hg (.exit 0 f ⟨Ev.N.all (Ev.N.all (Ev.N.all (Ev.N.all .none))), 0⟩) (.exit 1 f ⟨Ev.N.all (Ev.N.all (Ev.N.all (Ev.N.all .none))), 0⟩)) (fun s hs => by cases hs) with h | h
  · exact absurd h.2 (fun e => by cases e)
  · exact h.1
/-- a guard looks at one temporary alone -/
theorem guardX_congr {ops : Array Oper} {gd : Option (Nat × Bool)} {y n : X} (hl : ∀ j t d, gd = some (j, t) → gslot ops j = some d → F.get d f = F.get d g) : guardX ops gd f y n = guardX ops gd g y n := by
  cases gd with
  | none => rfl
  | some p =>
    obtain ⟨j, t⟩ := p
    show gTest (gslot ops j) t f y n = gTest (gslot ops j) t g y n
    cases hs : gslot ops j with
    | none => rfl
    | some d => unfold gTest; simp only; rw [hl j t d rfl hs]

theorem eqN_eq {s t : Ev.N AV} (h : eqN s t = true) : s = t := by
  cases s; cases t
  simp only [eqN, List.all_cons, List.all_nil, id, Bool.and_eq_true, and_true] at h
  obtain ⟨h0, h1, h2, h3, h4, h5, h6, h7, h8, h9, ha, hb, hc, hd, he, hf, hg⟩ := h
  rw [eqAV_eq _ _ h0, eqAV_eq _ _ h1, eqAV_eq _ _ h2, eqAV_eq _ _ h3, eqAV_eq _ _ h4, eqAV_eq _ _ h5, eqAV_eq _ _ h6, eqAV_eq _ _ h7, eqAV_eq _ _ h8, eqAV_eq _ _ h9, eqAV_eq _ _ ha, eqAV_eq _ _ hb, eqAV_eq _ _ hc, eqAV_eq _ _ hd, eqAV_eq _ _ he, eqAV_eq _ _ hf, eqAV_eq _ _ hg]
theorem eqNN_eq {s t : Ev.N (Ev.N AV)} (h : eqNN s t = true) : s = t := by
  cases s; cases t
  simp only [eqNN, List.all_cons, List.all_nil, id, Bool.and_eq_true, and_true] at h
  obtain ⟨h0, h1, h2, h3, h4, h5, h6, h7, h8, h9, ha, hb, hc, hd, he, hf, hg⟩ := h
  rw [eqN_eq h0, eqN_eq h1, eqN_eq h2, eqN_eq h3, eqN_eq h4, eqN_eq h5, eqN_eq h6, eqN_eq h7, eqN_eq h8, eqN_eq h9, eqN_eq ha, eqN_eq hb, eqN_eq hc, eqN_eq hd, eqN_eq he, eqN_eq hf, eqN_eq hg]
theorem eqOb_eq {s t : Ob} (h : eqOb s t = true) : s = t := by
  unfold eqOb at h
  split at h
  · obtain ⟨h1, h2⟩ := cond_t h; rw [Nat.eq_of_beq_eq_true h1, eqN_eq h2]
  · obtain ⟨h1, h2⟩ := cond_t h; rw [Nat.eq_of_beq_eq_true h1, eqNN_eq h2]
  · obtain ⟨h1, h2⟩ := cond_t h; rw [Nat.eq_of_beq_eq_true h1, Nat.eq_of_beq_eq_true h2]
  · cases h
end
end Go.Ev

/- Regions whose order is open: the state of a run through one. -/
namespace Go.Ev
open Go Go.RowKit

theorem memN_iff {x : Nat} {l : List Nat} : memN x l = true ↔ x ∈ l := by
  unfold memN
  rw [List.any_eq_true]
  constructor
  · rintro ⟨y, hy, he⟩; rw [Nat.eq_of_beq_eq_true he]; exact hy
  · intro hx; exact ⟨x, hx, Nat.beq_refl x⟩
theorem mem_preds {o : Oper} {p : Nat} : p ∈ preds o ↔ ∃ e ∈ o.after, Region.binds .any e = true ∧ e.on = p := by
  unfold preds
  simp only [List.mem_map, List.mem_filter, Array.mem_toList_iff]
  constructor
  · rintro ⟨e, ⟨h1, h2⟩, h3⟩; exact ⟨e, h1, h2, h3⟩
  · rintro ⟨e, h1, h2, h3⟩; exact ⟨e, ⟨h1, h2⟩, h3⟩

/-- what is known of a region's text -/
structure RText (P : Program) (ops : Array Oper) : Prop where
  nosel : Region.noSelect ops = true
  back : ∀ (i : Nat) (o : Oper), ops[i]? = some o → ∀ p ∈ preds o, p < i
  dst : ∀ (i k : Nat) (o q : Oper) (d : Tmp), ops[i]? = some o → ops[k]? = some q → i ≠ k → q.dst = some d → o.dst ≠ some d
  look : ∀ (i k : Nat) (o q : Oper) (d : Tmp), ops[i]? = some o → ops[k]? = some q → (clsOf P q).early = true → q.dst = some d → d ∈ o.looksAt ops → i ≠ k ∧ k ∈ preds o
theorem okTemps_stat {P : Program} {ops : Array Oper} (h : okTemps P ops = true) : RText P ops := by
  unfold okTemps at h
  rw [Bool.and_eq_true, List.all_eq_true] at h
  obtain ⟨h0, h1⟩ := h
  have hz : ∀ i o, ops[i]? = some o → (o, i) ∈ ops.toList.zipIdx := fun i o ho => by
    rw [List.mem_zipIdx_iff_getElem?]; simpa using ho
  have hp : ∀ i o, ops[i]? = some o → (∀ p ∈ preds o, p < i) ∧ ∀ k q, ops[k]? = some q → okPair P ops i k o q = true := fun i o ho => by
    have := h1 _ (hz i o ho)
    rw [Bool.and_eq_true, List.all_eq_true, List.all_eq_true] at this
    exact ⟨fun p hp => Nat.le_of_ble_eq_true (this.1 p hp), fun k q hq => this.2 _ (hz k q hq)⟩
  refine ⟨h0, fun i o ho => (hp i o ho).1, fun i k o q d ho hq hne hd hod => ?_, fun i k o q d ho hq he hd hl => ?_⟩
  · have := (hp i o ho).2 k q hq
    unfold okPair at this
    rw [hd] at this
    simp only [Bool.and_eq_true, Bool.or_eq_true] at this
    rcases this.1 with h2 | h2
    · simp [hod] at h2
    · exact hne (Nat.eq_of_beq_eq_true h2)
  · have := (hp i o ho).2 k q hq
    unfold okPair at this
    rw [hd] at this
    simp only [Bool.and_eq_true, Bool.or_eq_true] at this
    rcases this.2 with (h2 | h2) | h2
    · rw [he] at h2; cases h2
    · simp [hl] at h2
    · refine ⟨fun e => ?_, memN_iff.1 h2.2⟩
      subst e
      have := h2.1
      simp [Nat.beq_refl] at this

section
variable {P : Program} {N : Nat → Prop} {nt : Nat} {Γ Γ0 : Ctx} {h h' : Hp} {w w0 : World} {v : AV} {f g : F} {a : Act} {o : Oper} {callR : Nat → AV → Hp → R} {r : R} {x : X} {ops : Array Oper} {A : List Nat} {listed : Array Bool}

/-- what was found when an operation was tried once more -/
def ReOK (P : Program) (ops : Array Oper) (f : F) (h : Hp) (o : Oper) : Prop :=
  (clsOf P o = .pure ∧ ((GYes ops o f ∧ ∃ v h', exPure P o.op f h = .ok v h' ∧ ∀ d, o.dst = some d → F.get d f = v) ∨ (GNo ops o f ∧ ∀ d, o.dst = some d → F.get d f = un))) ∨
  (clsOf P o = .alloc ∧ ∃ ob mk b d, o.dst = some d ∧ o.guard = none ∧ AllocIs P o.op f ob mk ∧ F.get d f = mk b ∧ obAt b h = ob)
/-- an allocation's block is a number alone -/
def NumOnly (P : Program) (Γ0 Γ : Ctx) (f : F) (h : Hp) (o : Oper) : Prop :=
  clsOf P o = .alloc → ∀ d b, o.dst = some d → blkK (F.get d f) none some = some b → Γ.σ b = none ∧ b < h.n ∧ Γ0.nb ≤ b ∧ gN ≤ b
def Wait (ops : Array Oper) (A : List Nat) (listed : Array Bool) (e : Nat) (o : Oper) : Prop := e ∈ A ∧ listed.getD e true = false ∧ ops[e]? = some o
structure DRel (P : Program) (N : Nat → Prop) (nt : Nat) (ops : Array Oper) (Γ0 : Ctx) (w0 : World) (A : List Nat) (listed : Array Bool) (Γ : Ctx) (f : F) (h : Hp) (a : Act) (w : World) : Prop where
  le : Γ0.Le Γ
  bel : Below N w0 w
  rel : Rel N Γ h w
  get : ∀ t, (∀ e o, Wait ops A listed e o → o.dst ≠ some t) → VR Γ (F.get t f) (a.tmps.getD t undef)
  ds : DR Γ f.ds a.defers
  size : nt ≤ a.tmps.size
  small : nt ≤ 272
  lsz : listed.size = ops.size
  sub : ∀ i, listed.getD i false = true → i ∈ A
  down : ∀ i o, listed.getD i false = true → ops[i]? = some o → ∀ p ∈ preds o, listed.getD p false = true
  re : ∀ e o, Wait ops A listed e o → ReOK P ops f h o
  num : ∀ e o, Wait ops A listed e o → NumOnly P Γ0 Γ f h o
  dist : ∀ e e' o o' d d' b, Wait ops A listed e o → Wait ops A listed e' o' → clsOf P o = .alloc → clsOf P o' = .alloc → o.dst = some d → o'.dst = some d' → e ≠ e' → blkK (F.get d f) none some = some b → blkK (F.get d' f) none some ≠ some b

theorem ReOK.early (h1 : ReOK P ops f h o) : (clsOf P o).early = true := by rcases h1 with ⟨h, _⟩ | ⟨h, _⟩ <;> rw [h] <;> rfl

noncomputable def maskF (D : List Tmp) (f : F) : F := D.foldr (fun t f => F.set t .top f) f
theorem mask_in {t : Tmp} : ∀ {D : List Tmp}, (∀ d ∈ D, d < 272) → t ∈ D → F.get t (maskF D f) = .top
  | d :: D, hD, ht => by
    show F.get t (F.set d .top (maskF D f)) = _
    by_cases e : d = t
    · subst e; rw [F.get_set_same]
    · rw [F.get_set_ne' _ _ (hD d (by simp)) e]
      exact mask_in (fun d hd => hD d (by simp [hd])) ((List.mem_cons.1 ht).resolve_left (fun h => e h.symm))
theorem mask_out {t : Tmp} : ∀ {D : List Tmp}, (∀ d ∈ D, d < 272) → t ∉ D → F.get t (maskF D f) = F.get t f
  | [], hD, ht => rfl
  | d :: D, hD, ht => by
    show F.get t (F.set d .top (maskF D f)) = _
    rw [F.get_set_ne' _ _ (hD d (by simp)) (fun e => ht (by simp [e]))]
    exact mask_out (fun d hd => hD d (by simp [hd])) (fun h => ht (by simp [h]))
theorem mask_ds : ∀ (D : List Tmp), (maskF D f).ds = f.ds
  | [] => rfl
  | _ :: D => mask_ds D
def waits (ops : Array Oper) (A : List Nat) (listed : Array Bool) : List Tmp := A.filterMap fun e => if listed.getD e true then none else (ops[e]?).bind (·.dst)
theorem mem_waits {t : Tmp} : t ∈ waits ops A listed ↔ ∃ e o, Wait ops A listed e o ∧ o.dst = some t := by
  unfold waits Wait
  simp only [List.mem_filterMap]
  constructor
  · rintro ⟨e, he, h⟩
    split at h
    · cases h
    · rename_i hl
      obtain ⟨o, ho, hd⟩ := Option.bind_eq_some_iff.1 h
      exact ⟨e, o, ⟨he, by simpa using hl, ho⟩, hd⟩
  · rintro ⟨e, o, ⟨he, hl, ho⟩, hd⟩
    refine ⟨e, he, ?_⟩
    rw [hl, ho]; simp [hd]
theorem waits_small (hd : ∀ o ∈ ops.toList, okD nt o) (hn : nt ≤ 272) : ∀ t ∈ waits ops A listed, t < 272 := fun t ht => by
  obtain ⟨e, o, ⟨_, _, ho⟩, hdo⟩ := mem_waits.1 ht
  have := hd o (by rw [Array.mem_toList_iff]; exact Array.mem_of_getElem? ho) t hdo
  exact Nat.lt_of_lt_of_le this hn
theorem DRel.fr (D : DRel P N nt ops Γ0 w0 A listed Γ f h a w) (hd : ∀ o ∈ ops.toList, okD nt o) : FR nt Γ (maskF (waits ops A listed) f) a := by
  refine ⟨fun t => ?_, by rw [mask_ds]; exact D.ds, D.size, D.small⟩
  have hs := waits_small (A := A) (listed := listed) hd D.small
  by_cases ht : t ∈ waits ops A listed
  · rw [mask_in hs ht]; simp only [VR]
  · rw [mask_out hs ht]
    exact D.get t fun e o hw hdst => ht (mem_waits.2 ⟨e, o, hw, hdst⟩)
theorem unlisted {i : Nat} (hl : listed.size = ops.size) (h : listed.getD i true = false) : i < ops.size ∧ listed.getD i false = false := by
  rcases Nat.lt_or_ge i listed.size with h' | h'
  · refine ⟨by omega, ?_⟩
    simp [h'] at h ⊢; exact h
  · simp [Array.getElem?_eq_none h'] at h
/-- what a ready operation looks at is there -/
theorem DRel.looks (D : DRel P N nt ops Γ0 w0 A listed Γ f h a w) (S : RText P ops) {i : Nat} {o : Oper} (hi : ops[i]? = some o) (hr : i ∈ Region.ready .any ops listed) {t : Tmp} (ht : t ∈ o.looksAt ops) : t ∉ waits ops A listed := by
  intro hw
  obtain ⟨e, q, hwait, hdq⟩ := mem_waits.1 hw
  obtain ⟨_, hp⟩ := S.look i e o q t hi hwait.2.2 (D.re e q hwait).early hdq ht
  obtain ⟨_, o', ho', hall⟩ := mem_ready.1 hr
  rw [hi] at ho'; cases ho'
  obtain ⟨ed, hed, hb, hon⟩ := mem_preds.1 hp
  have := hall ed hed hb
  rw [hon] at this
  have h2 := (unlisted D.lsz hwait.2.1).2
  rw [this] at h2; cases h2
theorem DRel.opd (D : DRel P N nt ops Γ0 w0 A listed Γ f h a w) (S : RText P ops) (hd : ∀ o ∈ ops.toList, okD nt o) {i : Nat} {o : Oper} (hi : ops[i]? = some o) (hr : i ∈ Region.ready .any ops listed) :
    ∀ y ∈ o.op.operands, Ev.opd y f = Ev.opd y (maskF (waits ops A listed) f) := by
  intro y hy
  cases y with
  | tmp t =>
    have ht : t ∈ o.looksAt ops := List.mem_append_left _ (List.mem_filterMap.2 ⟨.tmp t, by simpa using hy, rfl⟩)
    exact (mask_out (waits_small hd D.small) (D.looks S hi hr ht)).symm
  | _ => rfl
theorem DRel.guard (D : DRel P N nt ops Γ0 w0 A listed Γ f h a w) (S : RText P ops) (hd : ∀ o ∈ ops.toList, okD nt o) {i : Nat} {o : Oper} (hi : ops[i]? = some o) (hr : i ∈ Region.ready .any ops listed) {y n : X} :
    guardX ops o.guard f y n = guardX ops o.guard (maskF (waits ops A listed) f) y n := by
  refine guardX_congr fun j t d hg hs => (mask_out (waits_small hd D.small) (D.looks S hi hr ?_)).symm
  refine List.mem_append_right _ ?_
  rw [hg]
  unfold gslot at hs
  simp [hs]
end
end Go.Ev

/- Regions whose order is open: one step. -/
namespace Go.Ev
open Go Go.RowKit

section
variable {ro : Option Nat} {P : Program} {N : Nat → Prop} {nt : Nat} {Γ Γ0 Δ : Ctx} {h h' : Hp} {w w0 w' : World} {v : AV} {f f' g : F} {a : Act} {o : Oper} {callR : Nat → AV → Hp → R} {r : R} {x : X} {ops : Array Oper} {A A' : List Nat} {listed : Array Bool}

theorem set_other {i j : Nat} (d : Bool) (h : j ≠ i) : (listed.setIfInBounds i true).getD j d = listed.getD j d := getD_set_ne d (Ne.symm h)
theorem set_same {i : Nat} (d : Bool) (h : i < listed.size) : (listed.setIfInBounds i true).getD i d = true := by simp [h]
theorem wait_set {i e : Nat} {q : Oper} (hA : ∀ e, e ∈ A' ↔ e ∈ A ∨ e = i) (hi : i < listed.size) (hw : Wait ops A' (listed.setIfInBounds i true) e q) : e ≠ i ∧ Wait ops A listed e q := by
  obtain ⟨h1, h2, h3⟩ := hw
  have hne : e ≠ i := fun he => by subst he; rw [set_same true hi] at h2; cases h2
  exact ⟨hne, ((hA e).1 h1).resolve_right hne, by rwa [set_other true hne] at h2, h3⟩

/-- an operation has come up -/
theorem DRel.fire (D : DRel P N nt ops Γ0 w0 A listed Γ f h a w) (S : RText P ops) (hd : ∀ o ∈ ops.toList, okD nt o) {i : Nat} (hi : ops[i]? = some o) (hr : i ∈ Region.ready .any ops listed) {val : Value}
    (hA : ∀ e, e ∈ A' ↔ e ∈ A ∨ e = i) (hle : Γ0.Le Δ) (hlz : Γ.z.Le Δ) (hb : Below N w0 w') (hR : Rel N Δ h' w') (hsame : ∀ t, o.dst ≠ some t → F.get t f' = F.get t f) (hds : f'.ds = f.ds)
    (hval : ∀ d, o.dst = some d → VR Δ (F.get d f') val)
    (hre : ∀ e q, e ≠ i → Wait ops A listed e q → ReOK P ops f' h' q) (hnum : ∀ e q, e ≠ i → Wait ops A listed e q → NumOnly P Γ0 Δ f' h' q) :
    DRel P N nt ops Γ0 w0 A' (listed.setIfInBounds i true) Δ f' h' (a.put o.dst val) w' := by
  obtain ⟨hun, o', ho', hall⟩ := mem_ready.1 hr
  rw [hi] at ho'; cases ho'
  have hil : i < listed.size := by have := (unlisted D.lsz hun).1; rw [D.lsz]; exact this
  have hdo : okD nt o := hd o (by rw [Array.mem_toList_iff]; exact Array.mem_of_getElem? hi)
  have hq : ∀ e q, e ≠ i → Wait ops A listed e q → ∀ t, q.dst = some t → F.get t f' = F.get t f := fun e q hne hw t ht => hsame t (S.dst i e o q t hi hw.2.2 (Ne.symm hne) ht)
  refine ⟨hle, hb, hR, fun t ht => ?_, ?_, ?_, D.small, by simp [D.lsz], fun j hj => ?_, fun j q hj hq' p hp => ?_, fun e q hw => ?_, fun e q hw => ?_, fun e e' q q' d d' b hw hw' hc hc' hdq hdq' hne hb1 hb2 => ?_⟩
  · by_cases hdt : o.dst = some t
    · have h1 : @LT.lt Nat _ t a.tmps.size := Nat.lt_of_lt_of_le (hdo t hdt) D.size
      have : (a.put o.dst val).tmps.getD t undef = val := by
        rw [hdt]; simp only [Act.put, Array.getD_eq_getD_getElem?]; rw [Array.getElem?_setIfInBounds_self_of_lt h1]; rfl
      rw [this]; exact hval t hdt
    · rw [hsame t hdt]
      have : (a.put o.dst val).tmps.getD t undef = a.tmps.getD t undef := by
        cases hd0 : o.dst with
        | none => rfl
        | some d =>
          have hne : d ≠ t := fun e => hdt (by rw [hd0, e])
          simp [Act.put, Array.getElem?_setIfInBounds_ne hne]
      rw [this]
      refine (D.get t fun e q hw hqt => ?_).monoz hlz
      by_cases he : e = i
      · subst he
        have := hw.2.2; rw [hi] at this; cases this
        exact hdt hqt
      · exact ht e q ⟨(hA e).2 (.inl hw.1), by rw [set_other true he]; exact hw.2.1, hw.2.2⟩ hqt
  · rw [hds]
    have : (a.put o.dst val).defers = a.defers := by cases o.dst <;> rfl
    rw [this]
    have hfr := (D.fr hd).monoz hlz
    have := hfr.ds
    rwa [mask_ds] at this
  · have : (a.put o.dst val).tmps.size = a.tmps.size := by cases o.dst <;> simp [Act.put]
    rw [this]; exact D.size
  · by_cases he : j = i
    · exact (hA j).2 (.inr he)
    · rw [set_other false he] at hj; exact (hA j).2 (.inl (D.sub j hj))
  · have hmono : ∀ k, listed.getD k false = true → (listed.setIfInBounds i true).getD k false = true := fun k hk => getD_set_true hk
    by_cases he : j = i
    · subst he
      rw [hi] at hq'; cases hq'
      obtain ⟨ed, hed, hbd, hon⟩ := mem_preds.1 hp
      have := hall ed hed hbd
      rw [hon] at this
      exact hmono p this
    · rw [set_other false he] at hj
      exact hmono p (D.down j q hj hq' p hp)
  · obtain ⟨hne, hw⟩ := wait_set hA hil hw
    exact hre e q hne hw
  · obtain ⟨hne, hw⟩ := wait_set hA hil hw
    exact hnum e q hne hw
  · obtain ⟨hne1, hw⟩ := wait_set hA hil hw
    obtain ⟨hne2, hw'⟩ := wait_set hA hil hw'
    rw [hq e q hne1 hw d hdq] at hb1
    rw [hq e' q' hne2 hw' d' hdq'] at hb2
    exact D.dist e e' q q' d d' b hw hw' hc hc' hdq hdq' hne hb1 hb2

theorem NumOnly.mono (hn : NumOnly P Γ0 Γ f h o) (hR : Rel N Γ h w) (hle : Γ.Le Δ) (hR' : Rel N Δ h' w') : NumOnly P Γ0 Δ f h' o := fun hc d b hd hb => by
  obtain ⟨h1, h2, h3, h4⟩ := hn hc d b hd hb
  refine ⟨hle.none b (by rw [hR.nb]; exact h2) h1, ?_, h3, h4⟩
  have := hle.nb; rw [hR.nb, hR'.nb] at this; omega
theorem NumOnly.frame (hn : NumOnly P Γ0 Γ f h o) (hs : ∀ d, o.dst = some d → F.get d f' = F.get d f) : NumOnly P Γ0 Γ f' h o := fun hc d b hd hb => hn hc d b hd (by rw [hs d hd] at hb; exact hb)

theorem wpOp_yes {Q : Exit → Act → World → Prop} {K : Act → World → Prop} {i : Nat} (hi : ops[i]? = some o) (hw : Region.wanted o (yielded ops a.tmps) = true) (h1 : o.wpIn (fen ro) 0 P a w K Q) : wpOpIn (fen ro) 0 P ops Q i K a w := by
  unfold wpOpIn; simp only [hi]; rw [if_pos hw]; exact h1
theorem wpOp_no {Q : Exit → Act → World → Prop} {K : Act → World → Prop} {i : Nat} (hi : ops[i]? = some o) (hw : Region.wanted o (yielded ops a.tmps) = false) (h1 : K (a.put o.dst undef) w) : wpOpIn (fen ro) 0 P ops Q i K a w := by
  unfold wpOpIn; simp only [hi]; rw [if_neg (by rw [hw]; decide)]; exact ⟨fun _ _ => trivial, h1⟩
theorem does_k (hnd : NoDef ro o) {K : Act → World → Prop} {Q : Exit → Act → World → Prop} (hdo : DoesY true P N Γ w (execOp a.eval o) (.ok v h'))
    (hk : ∀ Δ val w', Γ.Le Δ → VR Δ v val → Rel N Δ h' w' → Below N w w' → K (a.put o.dst val) w') : o.wpIn (fen ro) 0 P a w K Q := by
  refine ⟨fun _ _ => trivial, ?_⟩
  rw [hnd.sem]
  rcases hdo with (⟨val, w', nx, h1, h2, Δ, g1, g2, g3, g4⟩ | ⟨val, w', h1, h3⟩ | ⟨g, args, w1, h1, h3⟩) | ⟨_, l, fn, tmps, c1, c2, w1, h1, h3⟩
  · rw [h1]
    rcases h2 with rfl | ⟨rfl, rfl⟩
    · exact hk Δ _ _ g1 g2 g3 g4
    · exact hk Δ _ _ g1 g2 g3 g4
  · exact h3.elim
  · rw [h1]
    refine ⟨fen_depth, callsIn_wide.2 (Calls.mono h3 fun e w' he => ?_)⟩
    cases e with
    | returned val => obtain ⟨Δ, g1, g2, g3, g4⟩ := he; exact hk Δ _ _ g1 g2 g3 g4
    | panicked ch => exact he.elim
    | outgrown => exact he.elim
  · rw [h1]
    refine ⟨fen_depth, RoundIn.mono h3 fun e w' he => ?_⟩
    cases e with
    | returned val => obtain ⟨Δ, g1, g2, g3, g4⟩ := he; exact hk Δ _ _ g1 g2 g3 g4
    | panicked ch => exact he.elim
    | outgrown => exact he.elim
theorem cls_noDef {k : Cls} (hk : k = .pure ∨ k = .alloc) (hcl : clsOf P o = k) : NoDef ro o := .inr fun c ho => by
  unfold clsOf at hcl
  rw [ho] at hcl
  rcases hk with rfl | rfl <;> cases hcl

/-- one that was taken early comes up -/
theorem DRel.late {Q : Exit → Act → World → Prop} (D : DRel P N nt ops Γ0 w0 A listed Γ f h a w) (S : RText P ops) (hd : ∀ o ∈ ops.toList, okD nt o) {i : Nat} (hi : ops[i]? = some o) (hr : i ∈ Region.ready .any ops listed) (hiA : i ∈ A) :
    wpOpIn (fen ro) 0 P ops Q i (fun a' w' => ∃ Γ', DRel P N nt ops Γ0 w0 A (listed.setIfInBounds i true) Γ' f h a' w') a w := by
  have hf := D.fr hd
  have hwait : Wait ops A listed i o := ⟨hiA, (mem_ready.1 hr).1, hi⟩
  have hA : ∀ e, e ∈ A ↔ e ∈ A ∨ e = i := fun e => ⟨.inl, fun h => h.elim id (fun h => h ▸ hiA)⟩
  have hg : ∀ y n : X, guardX ops o.guard f y n = guardX ops o.guard (maskF (waits ops A listed) f) y n := fun y n => D.guard S hd hi hr
  rcases D.re i o hwait with ⟨hcl, ⟨hgy, v, h1, he, hdv⟩ | ⟨hgn, hdv⟩⟩ | ⟨hcl, ob, mk, b, d, hdd, hgd, hal, hfd, hob⟩
  · have hgy' : GYes ops o (maskF (waits ops A listed) f) := fun y n => by rw [← hg]; exact hgy y n
    rw [exPure_congr (D.opd S hd hi hr)] at he
    obtain ⟨rfl, hgv⟩ := exPure_ok hcl D.rel hf he
    refine wpOp_yes hi (hgy'.wanted hf) (does_k (cls_noDef (.inl rfl) hcl) (.inl hgv.does) fun Δ val w' g1 g2 g3 g4 => ⟨Δ, ?_⟩)
    exact D.fire S hd hi hr hA (D.le.trans g1) g1.z (D.bel.trans g4) g3 (fun _ _ => rfl) rfl (fun d' hd' => by rw [hdv d' hd']; exact g2) (fun e q _ hw => D.re e q hw) (fun e q _ hw => (D.num e q hw).mono D.rel g1 g3)
  · have hgn' : GNo ops o (maskF (waits ops A listed) f) := fun y n => by rw [← hg]; exact hgn y n
    refine wpOp_no hi (hgn'.wanted hf) ⟨Γ, ?_⟩
    exact D.fire S hd hi hr hA D.le (Ctx.Le.refl Γ).z D.bel D.rel (fun _ _ => rfl) rfl (fun d' hd' => by rw [hdv d' hd']; exact VR_un Γ) (fun e q _ hw => D.re e q hw) (fun e q _ hw => D.num e q hw)
  · obtain ⟨hσ, hbn, hb0, hgb⟩ := D.num i o hwait hcl d b hdd (by rw [hfd]; exact hal.blk b)
    have hw1 : Region.wanted o (yielded ops a.tmps) = true := by simp [Region.wanted, hgd]
    have hAR : ∃ mk2, mk b = mk2 b ∧ AllocRun P Γ w a o ob mk2 := by
      -- the same allocation, on the frame as it is seen
      obtain ⟨ob2, mk2, hal2, _, hv2, hh2, hrun2⟩ := (cls_alloc (P := P) (f := maskF (waits ops A listed) f) (h := ⟨h.t, b⟩) (v := mk b) (h' := ⟨setT b ob h.t, b + 1⟩) hcl (by
        rw [← exO_congr (D.opd S hd hi hr)]; exact hal.run ⟨h.t, b⟩ (Nat.lt_of_lt_of_le hbn D.rel.hn))).2.2
      have hobs : ob2 = ob := by
        have := congrArg (obAt b) hh2
        rw [obAt_setT_same, obAt_setT_same] at this; exact this.symm
      rw [hobs] at hrun2
      exact ⟨mk2, hv2, hrun2 N nt Γ w h a D.rel hf⟩
    obtain ⟨mk2, hmk2, hAR⟩ := hAR
    obtain ⟨us, el, val, hobF, hrunw, hval⟩ := hAR
    refine wpOp_yes hi hw1 ?_
    refine ⟨fun _ _ => trivial, ?_⟩
    rw [(cls_noDef (.inr rfl) hcl : NoDef ro o).sem, hrunw]
    have hlim : Γ.lim ≤ w.heap.size := Nat.le_of_eq D.rel.lim
    have hz := Γ.z_lay (b := b) (c := w.heap.size) (s := us.length) hlim hσ
    refine ⟨Γ.lay b w.heap.size us.length hlim, ?_⟩
    have hRel := D.rel.layAt (obj := .cells us.toArray el (0, 0)) (s := us.length) hbn hgb hσ (fun arr el' fz hh => by cases hh; simp) (by rw [hob]; exact hobF _ hz el)
    refine D.fire S hd hi hr hA (Ctx.le_lay D.le hlim hσ hb0) hz (D.bel.trans (below_push w _ D.rel.base)) hRel (fun _ _ => rfl) rfl (fun d' hd' => ?_) (fun e q _ hw => D.re e q hw) (fun e q hne hw => ?_)
    · rw [hdd] at hd'; cases hd'
      rw [hfd, hmk2]
      exact hval _ b (by show (if b = b then _ else _) = _; rw [if_pos rfl])
    · intro hc d' b' hd' hb'
      obtain ⟨g1, g2, g3, g4⟩ := D.num e q hw hc d' b' hd' hb'
      refine ⟨Ctx.lay_none hlim (fun hbb => ?_) g1, g2, g3, g4⟩
      subst hbb
      exact D.dist i e o q d d' b' hwait hw hcl hc hdd hd' (Ne.symm hne) (by rw [hfd]; exact hal.blk b') hb'
end
end Go.Ev
