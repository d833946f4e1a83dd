/- The closure of a function, through the table. -/
import Derived.Test.YtmahbimafpddpaaGreatDoorTc
import GoSem.ClaimFollow
import Derived.KernelRfl
set_option linter.unusedVariables false
namespace Go.Ev
open Go Go.Proofs
theorem eqL1_eq : ∀ {a b : List Nat}, eqL1 a b = true → a = b := by
  intro a
  induction a with
  | nil => intro b h; cases b with | nil => rfl | cons _ _ => cases h
  | cons x a ih =>
    intro b h
    cases b with
    | nil => cases h
    | cons y b =>
      unfold eqL1 at h
      cases hxy : Nat.beq x y with
      | false => rw [hxy] at h; cases h
      | true => rw [hxy] at h; rw [Nat.eq_of_beq_eq_true hxy, ih h]
theorem leadsB_map {P : Program} : ∀ {l : List Func} {t : List (List Nat)}, leadsB P l t = true → l.map P.leadsTo = t := by
  intro l
  induction l with
  | nil => intro t h; cases t with | nil => rfl | cons _ _ => cases h
  | cons f l ih =>
    intro t h
    cases t with
    | nil => cases h
    | cons r t =>
      have h' : cond (eqL1 (P.leadsTo f) r) (leadsB P l t) false = true := h
      cases hr : eqL1 (P.leadsTo f) r with
      | false => rw [hr] at h'; cases h'
      | true => rw [hr] at h'; rw [List.map_cons, eqL1_eq hr, ih h']
noncomputable def getT : List (List Nat) → Nat → List Nat := List.rec (motive := fun _ => Nat → List Nat) (fun _ => []) (fun r _ ih g => match g with | 0 => r | g + 1 => ih g)
noncomputable def seenT (m f : Nat) : Bool := Nat.beq (Nat.land 1 (Nat.shiftRight m f)) 1
noncomputable def closeT (tab : List (List Nat)) : Nat → List Nat → List Nat → Nat → List Nat := Nat.rec (motive := fun _ => List Nat → List Nat → Nat → List Nat) (fun _ seen _ => seen)
  (fun _ ih todo seen m => match todo with | [] => seen | f :: todo => cond (seenT m f) (ih todo seen m) (ih (getT tab f ++ todo) (f :: seen) (Nat.lor m (Nat.shiftLeft 1 f))))
theorem getT_eq : ∀ (t : List (List Nat)) (g : Nat), getT t g = (t[g]?).getD [] := by
  intro t
  induction t with
  | nil => intro g; rfl
  | cons r t ih => intro g; cases g with | zero => rfl | succ g => show getT t g = _; rw [ih, List.getElem?_cons_succ]
theorem seenT_eq (m f : Nat) : seenT m f = m.testBit f := by
  unfold seenT Nat.testBit
  show Nat.beq (1 &&& (m >>> f)) 1 = _
  have : 1 &&& (m >>> f) = (m >>> f) % 2 := by rw [Nat.and_comm, Nat.and_one_is_mod]
  rw [this]
  rcases Nat.mod_two_eq_zero_or_one (m >>> f) with h | h <;> rw [h] <;> rfl
theorem closeT_eq {P : Program} {tab : List (List Nat)} (h : P.funcs.toList.map P.leadsTo = tab) : ∀ (n : Nat) (todo seen : List Nat) (m : Nat), (∀ f, seen.contains f = m.testBit f) → P.closureVia n todo seen = (closeT tab n todo seen m).reverse := by
  intro n
  induction n with
  | zero => intro todo seen m _; unfold Program.closureVia; rfl
  | succ n ih =>
    intro todo seen m hm
    cases todo with
    | nil => unfold Program.closureVia; rfl
    | cons f todo =>
      have e : (P.funcs[f]?).elim [] P.leadsTo = getT tab f := by
        rw [getT_eq, ← h, List.getElem?_map, Array.getElem?_toList]
        cases P.funcs[f]? <;> rfl
      show (if seen.contains f then P.closureVia n todo seen else P.closureVia n ((P.funcs[f]?).elim [] P.leadsTo ++ todo) (f :: seen)) = (cond (seenT m f) (closeT tab n todo seen m) (closeT tab n (getT tab f ++ todo) (f :: seen) (Nat.lor m (Nat.shiftLeft 1 f)))).reverse
      rw [seenT_eq, ← hm f, e]
      cases hc : seen.contains f with
      | true => rw [if_pos rfl]; exact ih todo seen m hm
      | false =>
        rw [if_neg (by decide)]
        refine ih _ _ _ fun g => ?_
        show (f :: seen).contains g = Nat.testBit (m ||| (1 <<< f)) g
        rw [Nat.testBit_or, List.contains_cons, hm g, Nat.shiftLeft_eq, Nat.one_mul, Nat.testBit_two_pow]
        by_cases hg : g = f
        · subst hg; simp
        · have : (g == f) = false := by simpa using hg
          have h2 : ¬ f = g := fun h => hg h.symm
          simp [this, h2]
noncomputable def fuelT (tab : List (List Nat)) : Nat := 1 + (tab.map fun r => r.length + 1).sum
theorem closure_tab {P : Program} {tab : List (List Nat)} (h : leadsB P P.funcs.toList tab = true) (f : Nat) : P.closure f = (closeT tab (fuelT tab) [f] [] 0).reverse := by
  have h' := leadsB_map h
  unfold Program.closure fuelT
  rw [← closeT_eq h' _ [f] [] 0 (fun g => by simp)]
  congr 2
  rw [← h', List.map_map]; rfl
def closeL : List Nat := [3, 4, 17, 32, 52, 16, 31, 48, 49, 84, 159, 257, 160, 90, 161, 258, 122, 204, 304, 259, 365, 366, 461, 465, 462, 463, 464, 466, 375, 162, 260, 163, 164, 85, 86, 87, 88, 165, 166, 261, 89, 91, 167, 169, 264, 168, 262, 367, 263, 300, 388, 389, 368, 467, 473, 575, 468, 572, 469, 481, 482, 470, 573, 574, 639, 471, 472, 474, 475, 170, 265, 369, 271, 279, 372, 283, 280, 266, 171, 267, 172, 50, 92, 173, 268, 371, 370, 177, 234, 269, 93, 25, 174, 95, 96, 179, 176, 272, 273, 274, 282, 284, 285, 281, 286, 175, 270, 99, 26, 184, 287, 278, 186, 292, 293, 377, 479, 378, 294, 301, 390, 295, 296, 188, 297, 288, 289, 185, 290, 376, 477, 478, 291, 187, 94, 178, 97, 180, 275, 373, 476, 374, 276, 183, 181, 277, 98, 182, 51, 100, 101, 102, 104, 191, 103, 189, 298, 190, 299, 379, 385, 485, 380, 480, 381, 382, 483, 484, 576, 383, 384, 386, 387, 105, 192, 106, 107, 193, 108, 194, 195, 196, 197, 302, 391, 486, 577, 487, 392, 488, 489, 303, 393, 490, 578, 640, 491, 580, 579, 492, 493, 581, 582, 109, 198, 18, 33, 5, 8, 20, 34, 53, 110, 199, 255, 256, 200, 201, 202, 112, 111, 113, 203, 54, 81, 157, 14, 22, 11, 24, 23, 36, 27, 28, 37, 56, 114, 115, 116, 57, 117, 205, 118, 119, 120, 121, 206, 305, 394, 395, 494, 495, 396, 306, 397, 496, 307, 398, 497, 399, 498, 583, 400, 38, 39, 58, 123, 207, 208, 209, 210, 124, 211, 308, 125, 40, 60, 126, 212, 310, 309, 401, 127, 59, 61, 128, 213, 311, 214, 239, 325, 353, 418, 335, 438, 433, 539, 540, 541, 246, 348, 538, 607, 608, 542, 434, 440, 439, 419, 355, 421, 422, 442, 545, 611, 661, 420, 333, 435, 436, 543, 332, 240, 129, 216, 314, 215, 312, 402, 313, 403, 499, 505, 587, 500, 584, 501, 502, 585, 586, 641, 503, 504, 506, 507, 218, 217, 315, 219, 316, 317, 404, 220, 29, 41, 62, 131, 130, 221, 318, 319, 320, 405, 406, 508, 588, 222, 321, 407, 408, 224, 223, 132, 225, 322, 323, 324, 409, 343, 509, 589, 511, 510, 590, 512, 351, 354, 452, 453, 454, 562, 563, 634, 673, 455, 564, 628, 565, 339, 444, 445, 548, 617, 547, 616, 668, 621, 622, 670, 549, 618, 619, 669, 550, 620, 443, 546, 612, 662, 663, 613, 664, 614, 615, 665, 687, 624, 671, 350, 447, 551, 552, 553, 623, 625, 626, 627, 629, 630, 666, 688, 441, 341, 667, 689, 410, 513, 514, 591, 592, 411, 134, 227, 228, 326, 423, 527, 424, 425, 528, 602, 533, 601, 532, 650, 651, 531, 530, 529, 426, 534, 427, 428, 429, 515, 135, 229, 327, 328, 430, 535, 603, 604, 652, 536, 605, 537, 606, 653, 683, 654, 655, 656, 684, 329, 431, 230, 330, 336, 516, 593, 337, 517, 594, 595, 642, 678, 643, 352, 451, 679, 644, 680, 645, 646, 681, 647, 412, 518, 413, 414, 338, 432, 519, 596, 520, 597, 648, 682, 692, 693, 696, 699, 649, 598, 248, 334, 437, 544, 609, 610, 657, 658, 659, 685, 686, 660, 238, 340, 521, 599, 522, 600, 249, 349, 415, 523, 416, 524, 525, 358, 360, 457, 458, 567, 566, 568, 569, 635, 674, 636, 675, 637, 676, 690, 691, 694, 697, 695, 698, 700, 701, 571, 638, 677, 570, 417, 526, 78, 147, 252, 361, 63, 133, 226, 43, 136, 231, 137, 138, 232, 331, 233, 139, 141, 235, 64, 140, 65, 66, 142, 236, 237, 143, 241, 342, 446, 144, 242, 243, 344, 448, 245, 347, 244, 345, 449, 346, 450, 554, 555, 631, 556, 557, 632, 633, 672, 558, 559, 560, 561, 247, 67, 145, 250, 357, 356, 456, 251, 359, 68, 77, 155, 154, 146, 69, 44, 79, 156, 70, 71, 72, 148, 253, 150, 149, 151, 73, 152, 153, 254, 362, 459, 364, 363, 460, 74, 42, 76, 75, 12, 13, 30, 45, 80, 46, 82, 47, 83, 158, 9, 21, 35, 55, 7, 6, 19, 10, 15]
theorem closeL_ok : eqL1 (closeT leadTab (fuelT leadTab) [3] [] 0).reverse closeL = true := by kernel_rfl
theorem closure_is : Tryz.prog.closure 3 = closeL := (closure_tab leads_ok 3).trans (eqL1_eq closeL_ok)
end Go.Ev
