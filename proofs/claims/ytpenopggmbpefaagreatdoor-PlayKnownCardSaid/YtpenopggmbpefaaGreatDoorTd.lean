/- The closure of a function, through the table. -/
import Derived.Test.YtpenopggmbpefaaGreatDoorTc
import GoSem.ClaimFollow
import Derived.KernelRfl
set_option linter.unusedVariables false
namespace Go.Ev
open Go Go.Proofs
theorem eqL1_eq : ∀ {a b : List Nat}, eqL1 a b = true → a = b := by
  intro a
  induction a with
  | nil => intro b h; cases b with | nil => rfl | cons _ _ => cases h
  | cons x a ih =>
    intro b h
    cases b with
    | nil => cases h
    | cons y b =>
      unfold eqL1 at h
      cases hxy : Nat.beq x y with
      | false => rw [hxy] at h; cases h
      | true => rw [hxy] at h; rw [Nat.eq_of_beq_eq_true hxy, ih h]
theorem leadsB_map {P : Program} : ∀ {l : List Func} {t : List (List Nat)}, leadsB P l t = true → l.map P.leadsTo = t := by
  intro l
  induction l with
  | nil => intro t h; cases t with | nil => rfl | cons _ _ => cases h
  | cons f l ih =>
    intro t h
    cases t with
    | nil => cases h
    | cons r t =>
      have h' : cond (eqL1 (P.leadsTo f) r) (leadsB P l t) false = true := h
      cases hr : eqL1 (P.leadsTo f) r with
      | false => rw [hr] at h'; cases h'
      | true => rw [hr] at h'; rw [List.map_cons, eqL1_eq hr, ih h']
noncomputable def getT : List (List Nat) → Nat → List Nat := List.rec (motive := fun _ => Nat → List Nat) (fun _ => []) (fun r _ ih g => match g with | 0 => r | g + 1 => ih g)
noncomputable def seenT (m f : Nat) : Bool := Nat.beq (Nat.land 1 (Nat.shiftRight m f)) 1
noncomputable def closeT (tab : List (List Nat)) : Nat → List Nat → List Nat → Nat → List Nat := Nat.rec (motive := fun _ => List Nat → List Nat → Nat → List Nat) (fun _ seen _ => seen)
  (fun _ ih todo seen m => match todo with | [] => seen | f :: todo => cond (seenT m f) (ih todo seen m) (ih (getT tab f ++ todo) (f :: seen) (Nat.lor m (Nat.shiftLeft 1 f))))
theorem getT_eq : ∀ (t : List (List Nat)) (g : Nat), getT t g = (t[g]?).getD [] := by
  intro t
  induction t with
  | nil => intro g; rfl
  | cons r t ih => intro g; cases g with | zero => rfl | succ g => show getT t g = _; rw [ih, List.getElem?_cons_succ]
theorem seenT_eq (m f : Nat) : seenT m f = m.testBit f := by
  unfold seenT Nat.testBit
  show Nat.beq (1 &&& (m >>> f)) 1 = _
  have : 1 &&& (m >>> f) = (m >>> f) % 2 := by rw [Nat.and_comm, Nat.and_one_is_mod]
  rw [this]
  rcases Nat.mod_two_eq_zero_or_one (m >>> f) with h | h <;> rw [h] <;> rfl
theorem closeT_eq {P : Program} {tab : List (List Nat)} (h : P.funcs.toList.map P.leadsTo = tab) : ∀ (n : Nat) (todo seen : List Nat) (m : Nat), (∀ f, seen.contains f = m.testBit f) → P.closureVia n todo seen = (closeT tab n todo seen m).reverse := by
  intro n
  induction n with
  | zero => intro todo seen m _; unfold Program.closureVia; rfl
  | succ n ih =>
    intro todo seen m hm
    cases todo with
    | nil => unfold Program.closureVia; rfl
    | cons f todo =>
      have e : (P.funcs[f]?).elim [] P.leadsTo = getT tab f := by
        rw [getT_eq, ← h, List.getElem?_map, Array.getElem?_toList]
        cases P.funcs[f]? <;> rfl
      show (if seen.contains f then P.closureVia n todo seen else P.closureVia n ((P.funcs[f]?).elim [] P.leadsTo ++ todo) (f :: seen)) = (cond (seenT m f) (closeT tab n todo seen m) (closeT tab n (getT tab f ++ todo) (f :: seen) (Nat.lor m (Nat.shiftLeft 1 f)))).reverse
      rw [seenT_eq, ← hm f, e]
      cases hc : seen.contains f with
      | true => rw [if_pos rfl]; exact ih todo seen m hm
      | false =>
        rw [if_neg (by decide)]
        refine ih _ _ _ fun g => ?_
        show (f :: seen).contains g = Nat.testBit (m ||| (1 <<< f)) g
        rw [Nat.testBit_or, List.contains_cons, hm g, Nat.shiftLeft_eq, Nat.one_mul, Nat.testBit_two_pow]
        by_cases hg : g = f
        · subst hg; simp
        · have : (g == f) = false := by simpa using hg
          have h2 : ¬ f = g := fun h => hg h.symm
          simp [this, h2]
noncomputable def fuelT (tab : List (List Nat)) : Nat := 1 + (tab.map fun r => r.length + 1).sum
theorem closure_tab {P : Program} {tab : List (List Nat)} (h : leadsB P P.funcs.toList tab = true) (f : Nat) : P.closure f = (closeT tab (fuelT tab) [f] [] 0).reverse := by
  have h' := leadsB_map h
  unfold Program.closure fuelT
  rw [← closeT_eq h' _ [f] [] 0 (fun g => by simp)]
  congr 2
  rw [← h', List.map_map]; rfl
def closeL : List Nat := [3, 5, 17, 38, 100, 200, 322, 445, 446, 323, 324, 325, 202, 201, 203, 326, 101, 204, 327, 18, 40, 39, 4, 7, 20, 8, 21, 22, 42, 103, 89, 104, 48, 105, 205, 124, 211, 328, 206, 329, 330, 447, 451, 448, 449, 450, 452, 336, 106, 158, 107, 108, 43, 44, 45, 46, 109, 110, 207, 47, 49, 111, 112, 208, 74, 154, 273, 155, 244, 349, 350, 274, 398, 404, 314, 399, 513, 400, 457, 458, 401, 514, 515, 580, 402, 403, 405, 406, 113, 209, 331, 216, 224, 334, 228, 225, 210, 114, 212, 77, 23, 50, 115, 213, 333, 332, 119, 199, 214, 51, 68, 116, 53, 54, 121, 118, 217, 218, 219, 227, 229, 230, 226, 231, 117, 215, 57, 13, 127, 232, 223, 129, 237, 238, 338, 455, 339, 157, 245, 351, 239, 240, 131, 241, 233, 234, 128, 235, 337, 453, 454, 236, 130, 52, 120, 55, 122, 220, 192, 315, 335, 221, 126, 123, 222, 56, 125, 24, 58, 59, 60, 62, 134, 61, 132, 242, 133, 243, 340, 346, 461, 341, 456, 342, 343, 459, 460, 538, 344, 345, 347, 348, 63, 135, 64, 65, 136, 66, 137, 138, 139, 140, 87, 31, 75, 156, 76, 32, 78, 79, 153, 272, 394, 508, 579, 395, 510, 509, 396, 397, 511, 512, 67, 141, 9, 25, 10, 26, 11, 12, 27, 29, 69, 142, 70, 71, 143, 246, 352, 353, 354, 247, 355, 462, 356, 357, 358, 359, 463, 307, 431, 432, 530, 531, 433, 532, 585, 533, 298, 424, 527, 425, 528, 583, 426, 144, 145, 248, 360, 464, 465, 466, 467, 361, 468, 539, 362, 146, 250, 363, 469, 541, 540, 596, 364, 249, 251, 365, 470, 278, 471, 493, 179, 176, 300, 299, 427, 420, 524, 525, 290, 317, 439, 523, 194, 167, 174, 421, 429, 428, 301, 302, 303, 304, 306, 430, 529, 584, 177, 296, 422, 423, 526, 297, 494, 366, 473, 544, 472, 542, 597, 543, 598, 637, 643, 687, 638, 684, 639, 640, 685, 686, 713, 641, 642, 644, 645, 475, 474, 545, 476, 546, 547, 599, 477, 72, 147, 252, 368, 367, 478, 548, 549, 550, 600, 601, 646, 688, 479, 551, 602, 603, 481, 480, 369, 482, 277, 552, 553, 604, 563, 90, 178, 648, 647, 689, 649, 411, 410, 517, 288, 518, 581, 582, 627, 680, 519, 419, 169, 289, 560, 616, 617, 282, 270, 407, 28, 73, 151, 152, 271, 666, 702, 703, 729, 284, 414, 285, 162, 159, 275, 276, 280, 279, 281, 283, 408, 436, 291, 416, 409, 516, 417, 418, 171, 293, 292, 294, 168, 170, 295, 412, 520, 305, 521, 413, 522, 605, 650, 651, 308, 690, 606, 371, 440, 441, 536, 587, 628, 588, 589, 629, 682, 634, 681, 633, 711, 712, 632, 631, 630, 590, 635, 591, 592, 593, 652, 372, 484, 182, 554, 613, 662, 696, 697, 720, 663, 698, 664, 699, 721, 739, 722, 723, 724, 740, 555, 614, 485, 556, 181, 653, 691, 558, 654, 692, 693, 714, 735, 715, 569, 622, 736, 716, 737, 717, 718, 738, 719, 607, 655, 608, 609, 559, 444, 91, 180, 196, 318, 442, 537, 594, 595, 636, 683, 443, 319, 501, 557, 615, 665, 700, 701, 725, 726, 727, 741, 742, 728, 492, 561, 656, 694, 657, 695, 502, 568, 610, 658, 611, 659, 660, 572, 574, 15, 624, 675, 191, 676, 677, 707, 731, 708, 732, 709, 733, 743, 744, 745, 747, 746, 748, 749, 750, 679, 710, 734, 678, 612, 661, 268, 384, 505, 575, 253, 370, 483, 149, 373, 486, 374, 375, 487, 320, 488, 376, 378, 489, 254, 377, 255, 256, 379, 490, 491, 380, 495, 562, 618, 381, 496, 497, 564, 619, 499, 567, 498, 565, 620, 566, 621, 667, 668, 704, 669, 670, 705, 706, 730, 671, 672, 673, 674, 500, 257, 382, 503, 571, 570, 623, 504, 573, 258, 267, 392, 391, 383, 259, 150, 269, 393, 260, 261, 262, 385, 506, 387, 386, 388, 263, 389, 390, 507, 576, 625, 578, 577, 626, 264, 148, 266, 265, 30, 33, 80, 81, 160, 161, 82, 83, 97, 193, 316, 164, 163, 286, 84, 166, 165, 287, 415, 85, 86, 172, 173, 175, 34, 14, 16, 35, 88, 36, 92, 37, 93, 183, 184, 185, 186, 309, 434, 187, 310, 435, 534, 311, 188, 312, 189, 313, 437, 438, 535, 586, 190, 94, 95, 96, 98, 195, 99, 197, 321, 198, 6, 19, 41, 102]
theorem closeL_ok : eqL1 (closeT leadTab (fuelT leadTab) [3] [] 0).reverse closeL = true := by kernel_rfl
theorem closure_is : Tryz.prog.closure 3 = closeL := (closure_tab leads_ok 3).trans (eqL1_eq closeL_ok)
end Go.Ev
