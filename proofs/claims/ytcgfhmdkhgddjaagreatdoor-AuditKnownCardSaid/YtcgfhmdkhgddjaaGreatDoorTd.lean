/- The closure of a function, through the table. -/
import Derived.Test.YtcgfhmdkhgddjaaGreatDoorTc
import GoSem.ClaimFollow
import Derived.KernelRfl
set_option linter.unusedVariables false
namespace Go.Ev
open Go Go.Proofs
theorem eqL1_eq : ∀ {a b : List Nat}, eqL1 a b = true → a = b := by
  intro a
  induction a with
  | nil => intro b h; cases b with | nil => rfl | cons _ _ => cases h
  | cons x a ih =>
    intro b h
    cases b with
    | nil => cases h
    | cons y b =>
      unfold eqL1 at h
      cases hxy : Nat.beq x y with
      | false => rw [hxy] at h; cases h
      | true => rw [hxy] at h; rw [Nat.eq_of_beq_eq_true hxy, ih h]
theorem leadsB_map {P : Program} : ∀ {l : List Func} {t : List (List Nat)}, leadsB P l t = true → l.map P.leadsTo = t := by
  intro l
  induction l with
  | nil => intro t h; cases t with | nil => rfl | cons _ _ => cases h
  | cons f l ih =>
    intro t h
    cases t with
    | nil => cases h
    | cons r t =>
      have h' : cond (eqL1 (P.leadsTo f) r) (leadsB P l t) false = true := h
      cases hr : eqL1 (P.leadsTo f) r with
      | false => rw [hr] at h'; cases h'
      | true => rw [hr] at h'; rw [List.map_cons, eqL1_eq hr, ih h']
noncomputable def getT : List (List Nat) → Nat → List Nat := List.rec (motive := fun _ => Nat → List Nat) (fun _ => []) (fun r _ ih g => match g with | 0 => r | g + 1 => ih g)
noncomputable def seenT (m f : Nat) : Bool := Nat.beq (Nat.land 1 (Nat.shiftRight m f)) 1
noncomputable def closeT (tab : List (List Nat)) : Nat → List Nat → List Nat → Nat → List Nat := Nat.rec (motive := fun _ => List Nat → List Nat → Nat → List Nat) (fun _ seen _ => seen)
  (fun _ ih todo seen m => match todo with | [] => seen | f :: todo => cond (seenT m f) (ih todo seen m) (ih (getT tab f ++ todo) (f :: seen) (Nat.lor m (Nat.shiftLeft 1 f))))
theorem getT_eq : ∀ (t : List (List Nat)) (g : Nat), getT t g = (t[g]?).getD [] := by
  intro t
  induction t with
  | nil => intro g; rfl
  | cons r t ih => intro g; cases g with | zero => rfl | succ g => show getT t g = _; rw [ih, List.getElem?_cons_succ]
theorem seenT_eq (m f : Nat) : seenT m f = m.testBit f := by
  unfold seenT Nat.testBit
  show Nat.beq (1 &&& (m >>> f)) 1 = _
  have : 1 &&& (m >>> f) = (m >>> f) % 2 := by rw [Nat.and_comm, Nat.and_one_is_mod]
  rw [this]
  rcases Nat.mod_two_eq_zero_or_one (m >>> f) with h | h <;> rw [h] <;> rfl
theorem closeT_eq {P : Program} {tab : List (List Nat)} (h : P.funcs.toList.map P.leadsTo = tab) : ∀ (n : Nat) (todo seen : List Nat) (m : Nat), (∀ f, seen.contains f = m.testBit f) → P.closureVia n todo seen = (closeT tab n todo seen m).reverse := by
  intro n
  induction n with
  | zero => intro todo seen m _; unfold Program.closureVia; rfl
  | succ n ih =>
    intro todo seen m hm
    cases todo with
    | nil => unfold Program.closureVia; rfl
    | cons f todo =>
      have e : (P.funcs[f]?).elim [] P.leadsTo = getT tab f := by
        rw [getT_eq, ← h, List.getElem?_map, Array.getElem?_toList]
        cases P.funcs[f]? <;> rfl
      show (if seen.contains f then P.closureVia n todo seen else P.closureVia n ((P.funcs[f]?).elim [] P.leadsTo ++ todo) (f :: seen)) = (cond (seenT m f) (closeT tab n todo seen m) (closeT tab n (getT tab f ++ todo) (f :: seen) (Nat.lor m (Nat.shiftLeft 1 f)))).reverse
      rw [seenT_eq, ← hm f, e]
      cases hc : seen.contains f with
      | true => rw [if_pos rfl]; exact ih todo seen m hm
      | false =>
        rw [if_neg (by decide)]
        refine ih _ _ _ fun g => ?_
        show (f :: seen).contains g = Nat.testBit (m ||| (1 <<< f)) g
        rw [Nat.testBit_or, List.contains_cons, hm g, Nat.shiftLeft_eq, Nat.one_mul, Nat.testBit_two_pow]
        by_cases hg : g = f
        · subst hg; simp
        · have : (g == f) = false := by simpa using hg
          have h2 : ¬ f = g := fun h => hg h.symm
          simp [this, h2]
noncomputable def fuelT (tab : List (List Nat)) : Nat := 1 + (tab.map fun r => r.length + 1).sum
theorem closure_tab {P : Program} {tab : List (List Nat)} (h : leadsB P P.funcs.toList tab = true) (f : Nat) : P.closure f = (closeT tab (fuelT tab) [f] [] 0).reverse := by
  have h' := leadsB_map h
  unfold Program.closure fuelT
  rw [← closeT_eq h' _ [f] [] 0 (fun g => by simp)]
  congr 2
  rw [← h', List.map_map]; rfl
def closeL : List Nat := [3, 4, 14, 37, 78, 13, 36, 74, 75, 146, 245, 352, 246, 142, 247, 353, 203, 358, 424, 354, 425, 426, 474, 478, 475, 476, 477, 479, 427, 248, 355, 249, 250, 147, 148, 149, 150, 251, 252, 356, 151, 152, 253, 255, 357, 254, 80, 172, 82, 175, 287, 288, 174, 278, 284, 71, 279, 378, 280, 379, 380, 281, 381, 382, 448, 282, 283, 285, 286, 256, 306, 241, 320, 242, 289, 310, 307, 316, 257, 359, 258, 76, 153, 127, 177, 244, 243, 231, 90, 176, 154, 259, 56, 155, 156, 261, 260, 304, 338, 200, 309, 311, 312, 308, 313, 202, 319, 158, 263, 264, 361, 360, 266, 366, 367, 429, 482, 430, 368, 275, 374, 369, 370, 268, 371, 362, 363, 265, 364, 428, 480, 481, 365, 267, 128, 55, 97, 194, 302, 72, 145, 398, 303, 198, 195, 305, 157, 262, 77, 159, 160, 161, 163, 271, 162, 269, 372, 270, 373, 431, 437, 469, 432, 483, 433, 434, 484, 485, 508, 435, 436, 438, 439, 164, 272, 165, 166, 273, 79, 168, 169, 170, 171, 276, 375, 440, 486, 441, 376, 442, 443, 277, 377, 444, 487, 509, 445, 489, 488, 446, 447, 490, 491, 167, 274, 6, 17, 8, 19, 20, 21, 46, 91, 92, 187, 295, 188, 296, 387, 189, 58, 57, 129, 65, 140, 131, 233, 234, 178, 179, 290, 232, 83, 180, 136, 132, 238, 133, 134, 239, 350, 141, 204, 101, 99, 59, 130, 135, 60, 205, 206, 291, 237, 349, 423, 94, 93, 190, 96, 100, 98, 196, 197, 199, 314, 315, 399, 461, 201, 317, 326, 318, 95, 192, 193, 299, 392, 298, 391, 458, 396, 397, 460, 300, 393, 394, 459, 301, 395, 191, 297, 28, 66, 67, 68, 388, 454, 389, 390, 455, 139, 321, 400, 222, 104, 208, 209, 210, 322, 323, 324, 325, 327, 328, 456, 493, 236, 105, 457, 494, 47, 102, 103, 61, 207, 48, 106, 122, 224, 339, 409, 225, 226, 227, 211, 123, 228, 340, 410, 341, 342, 411, 468, 416, 467, 415, 502, 503, 414, 413, 412, 343, 417, 344, 345, 346, 107, 212, 329, 112, 401, 462, 495, 511, 512, 519, 496, 513, 497, 514, 520, 526, 521, 522, 523, 527, 402, 463, 330, 108, 182, 292, 383, 384, 449, 450, 385, 451, 109, 213, 214, 110, 215, 216, 331, 403, 332, 404, 464, 223, 11, 405, 333, 406, 334, 335, 407, 336, 49, 111, 50, 51, 113, 120, 85, 181, 87, 183, 293, 386, 452, 453, 492, 510, 294, 184, 114, 217, 337, 408, 465, 466, 498, 499, 500, 515, 516, 501, 115, 218, 116, 219, 117, 220, 118, 119, 221, 52, 121, 53, 124, 125, 229, 230, 347, 348, 418, 32, 419, 420, 470, 504, 471, 505, 472, 506, 517, 518, 524, 528, 525, 529, 530, 531, 422, 473, 507, 421, 54, 126, 15, 38, 39, 5, 9, 23, 22, 24, 25, 26, 62, 137, 27, 63, 138, 235, 64, 29, 69, 30, 70, 143, 144, 240, 351, 31, 16, 33, 40, 41, 42, 81, 173, 43, 84, 44, 86, 45, 88, 185, 186, 89, 7, 18, 10, 34, 12, 35, 73]
theorem closeL_ok : eqL1 (closeT leadTab (fuelT leadTab) [3] [] 0).reverse closeL = true := by kernel_rfl
theorem closure_is : Tryz.prog.closure 3 = closeL := (closure_tab leads_ok 3).trans (eqL1_eq closeL_ok)
end Go.Ev
