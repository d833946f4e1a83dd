/- The closure of a function, through the table. -/
import Derived.Test.YtckobpdmjlfenaaGreatDoorTc
import GoSem.ClaimFollow
import Derived.KernelRfl
set_option linter.unusedVariables false
namespace Go.Ev
open Go Go.Proofs
theorem eqL1_eq : ∀ {a b : List Nat}, eqL1 a b = true → a = b := by
  intro a
  induction a with
  | nil => intro b h; cases b with | nil => rfl | cons _ _ => cases h
  | cons x a ih =>
    intro b h
    cases b with
    | nil => cases h
    | cons y b =>
      unfold eqL1 at h
      cases hxy : Nat.beq x y with
      | false => rw [hxy] at h; cases h
      | true => rw [hxy] at h; rw [Nat.eq_of_beq_eq_true hxy, ih h]
theorem leadsB_map {P : Program} : ∀ {l : List Func} {t : List (List Nat)}, leadsB P l t = true → l.map P.leadsTo = t := by
  intro l
  induction l with
  | nil => intro t h; cases t with | nil => rfl | cons _ _ => cases h
  | cons f l ih =>
    intro t h
    cases t with
    | nil => cases h
    | cons r t =>
      have h' : cond (eqL1 (P.leadsTo f) r) (leadsB P l t) false = true := h
      cases hr : eqL1 (P.leadsTo f) r with
      | false => rw [hr] at h'; cases h'
      | true => rw [hr] at h'; rw [List.map_cons, eqL1_eq hr, ih h']
noncomputable def getT : List (List Nat) → Nat → List Nat := List.rec (motive := fun _ => Nat → List Nat) (fun _ => []) (fun r _ ih g => match g with | 0 => r | g + 1 => ih g)
noncomputable def seenT (m f : Nat) : Bool := Nat.beq (Nat.land 1 (Nat.shiftRight m f)) 1
noncomputable def closeT (tab : List (List Nat)) : Nat → List Nat → List Nat → Nat → List Nat := Nat.rec (motive := fun _ => List Nat → List Nat → Nat → List Nat) (fun _ seen _ => seen)
  (fun _ ih todo seen m => match todo with | [] => seen | f :: todo => cond (seenT m f) (ih todo seen m) (ih (getT tab f ++ todo) (f :: seen) (Nat.lor m (Nat.shiftLeft 1 f))))
theorem getT_eq : ∀ (t : List (List Nat)) (g : Nat), getT t g = (t[g]?).getD [] := by
  intro t
  induction t with
  | nil => intro g; rfl
  | cons r t ih => intro g; cases g with | zero => rfl | succ g => show getT t g = _; rw [ih, List.getElem?_cons_succ]
theorem seenT_eq (m f : Nat) : seenT m f = m.testBit f := by
  unfold seenT Nat.testBit
  show Nat.beq (1 &&& (m >>> f)) 1 = _
  have : 1 &&& (m >>> f) = (m >>> f) % 2 := by rw [Nat.and_comm, Nat.and_one_is_mod]
  rw [this]
  rcases Nat.mod_two_eq_zero_or_one (m >>> f) with h | h <;> rw [h] <;> rfl
theorem closeT_eq {P : Program} {tab : List (List Nat)} (h : P.funcs.toList.map P.leadsTo = tab) : ∀ (n : Nat) (todo seen : List Nat) (m : Nat), (∀ f, seen.contains f = m.testBit f) → P.closureVia n todo seen = (closeT tab n todo seen m).reverse := by
  intro n
  induction n with
  | zero => intro todo seen m _; unfold Program.closureVia; rfl
  | succ n ih =>
    intro todo seen m hm
    cases todo with
    | nil => unfold Program.closureVia; rfl
    | cons f todo =>
      have e : (P.funcs[f]?).elim [] P.leadsTo = getT tab f := by
        rw [getT_eq, ← h, List.getElem?_map, Array.getElem?_toList]
        cases P.funcs[f]? <;> rfl
      show (if seen.contains f then P.closureVia n todo seen else P.closureVia n ((P.funcs[f]?).elim [] P.leadsTo ++ todo) (f :: seen)) = (cond (seenT m f) (closeT tab n todo seen m) (closeT tab n (getT tab f ++ todo) (f :: seen) (Nat.lor m (Nat.shiftLeft 1 f)))).reverse
      rw [seenT_eq, ← hm f, e]
      cases hc : seen.contains f with
      | true => rw [if_pos rfl]; exact ih todo seen m hm
      | false =>
        rw [if_neg (by decide)]
        refine ih _ _ _ fun g => ?_
        show (f :: seen).contains g = Nat.testBit (m ||| (1 <<< f)) g
        rw [Nat.testBit_or, List.contains_cons, hm g, Nat.shiftLeft_eq, Nat.one_mul, Nat.testBit_two_pow]
        by_cases hg : g = f
        · subst hg; simp
        · have : (g == f) = false := by simpa using hg
          have h2 : ¬ f = g := fun h => hg h.symm
          simp [this, h2]
noncomputable def fuelT (tab : List (List Nat)) : Nat := 1 + (tab.map fun r => r.length + 1).sum
theorem closure_tab {P : Program} {tab : List (List Nat)} (h : leadsB P P.funcs.toList tab = true) (f : Nat) : P.closure f = (closeT tab (fuelT tab) [f] [] 0).reverse := by
  have h' := leadsB_map h
  unfold Program.closure fuelT
  rw [← closeT_eq h' _ [f] [] 0 (fun g => by simp)]
  congr 2
  rw [← h', List.map_map]; rfl
def closeL : List Nat := [3, 4, 13, 38, 86, 12, 37, 82, 83, 146, 249, 363, 250, 152, 251, 364, 123, 371, 438, 365, 439, 440, 489, 493, 490, 491, 492, 494, 444, 252, 366, 253, 254, 147, 148, 149, 150, 255, 256, 367, 151, 153, 257, 259, 370, 258, 368, 441, 369, 115, 213, 214, 442, 495, 501, 514, 496, 532, 497, 329, 330, 498, 533, 534, 544, 499, 500, 502, 503, 260, 223, 352, 230, 224, 353, 238, 236, 222, 261, 372, 262, 84, 154, 263, 373, 354, 443, 267, 66, 374, 155, 264, 265, 156, 157, 268, 266, 125, 126, 127, 225, 226, 227, 237, 228, 128, 229, 159, 270, 271, 376, 375, 273, 381, 382, 446, 506, 447, 383, 301, 399, 384, 385, 275, 386, 377, 378, 272, 379, 445, 504, 505, 380, 274, 129, 231, 52, 102, 200, 317, 413, 318, 201, 137, 103, 202, 158, 269, 85, 160, 161, 162, 164, 278, 163, 276, 387, 277, 388, 448, 454, 510, 449, 507, 450, 451, 508, 509, 535, 452, 453, 455, 456, 165, 279, 166, 167, 280, 96, 188, 189, 190, 191, 302, 400, 469, 519, 470, 401, 471, 472, 303, 402, 473, 520, 541, 474, 522, 521, 475, 476, 523, 524, 168, 281, 14, 39, 15, 40, 41, 42, 87, 55, 98, 192, 304, 193, 305, 403, 194, 169, 72, 282, 47, 77, 131, 233, 234, 235, 29, 63, 232, 355, 356, 243, 132, 140, 135, 136, 141, 244, 76, 75, 54, 104, 78, 130, 105, 74, 106, 107, 143, 245, 358, 436, 171, 170, 283, 172, 70, 73, 133, 134, 138, 239, 240, 357, 435, 139, 241, 349, 242, 50, 100, 101, 197, 311, 196, 310, 410, 315, 316, 412, 198, 312, 313, 411, 199, 314, 99, 195, 306, 404, 405, 67, 307, 406, 308, 309, 407, 477, 345, 434, 69, 122, 219, 220, 221, 344, 346, 347, 348, 350, 351, 408, 478, 142, 53, 409, 479, 88, 173, 174, 284, 285, 89, 116, 184, 295, 361, 437, 296, 297, 298, 118, 121, 218, 337, 426, 338, 339, 427, 488, 432, 487, 431, 530, 531, 430, 429, 428, 340, 433, 341, 342, 343, 175, 64, 117, 80, 215, 333, 419, 481, 482, 525, 420, 483, 421, 484, 526, 542, 527, 528, 529, 543, 216, 334, 119, 112, 79, 144, 246, 247, 359, 360, 248, 362, 176, 286, 287, 177, 288, 289, 389, 457, 390, 458, 511, 71, 124, 459, 391, 460, 392, 393, 461, 394, 90, 178, 91, 92, 49, 97, 179, 290, 180, 291, 395, 462, 512, 513, 536, 545, 396, 292, 31, 65, 120, 217, 335, 336, 422, 423, 424, 485, 486, 425, 22, 51, 181, 293, 182, 294, 36, 32, 68, 93, 183, 94, 185, 186, 299, 300, 397, 398, 464, 463, 465, 466, 515, 537, 516, 538, 517, 539, 546, 547, 548, 550, 549, 551, 552, 553, 468, 518, 540, 467, 95, 187, 16, 43, 44, 5, 7, 19, 17, 45, 6, 8, 20, 21, 23, 24, 10, 34, 46, 35, 81, 145, 9, 25, 26, 56, 108, 58, 111, 57, 109, 203, 110, 204, 319, 325, 417, 320, 414, 321, 322, 415, 416, 480, 323, 324, 326, 327, 59, 28, 62, 27, 60, 113, 61, 114, 205, 206, 328, 207, 208, 331, 332, 418, 209, 210, 211, 212, 30, 11, 33, 18, 48]
theorem closeL_ok : eqL1 (closeT leadTab (fuelT leadTab) [3] [] 0).reverse closeL = true := by kernel_rfl
theorem closure_is : Tryz.prog.closure 3 = closeL := (closure_tab leads_ok 3).trans (eqL1_eq closeL_ok)
end Go.Ev
