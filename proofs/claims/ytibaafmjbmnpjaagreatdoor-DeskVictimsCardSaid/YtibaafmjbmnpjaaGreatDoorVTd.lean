/- The closure of a function, through the table. -/
import Derived.Test.YtibaafmjbmnpjaaGreatDoorTc
import GoSem.ClaimFollow
import Derived.KernelRfl
set_option linter.unusedVariables false
namespace Go.Ev
open Go Go.Proofs
theorem eqL1_eq : ∀ {a b : List Nat}, eqL1 a b = true → a = b := by
  intro a
  induction a with
  | nil => intro b h; cases b with | nil => rfl | cons _ _ => cases h
  | cons x a ih =>
    intro b h
    cases b with
    | nil => cases h
    | cons y b =>
      unfold eqL1 at h
      cases hxy : Nat.beq x y with
      | false => rw [hxy] at h; cases h
      | true => rw [hxy] at h; rw [Nat.eq_of_beq_eq_true hxy, ih h]
theorem leadsB_map {P : Program} : ∀ {l : List Func} {t : List (List Nat)}, leadsB P l t = true → l.map P.leadsTo = t := by
  intro l
  induction l with
  | nil => intro t h; cases t with | nil => rfl | cons _ _ => cases h
  | cons f l ih =>
    intro t h
    cases t with
    | nil => cases h
    | cons r t =>
      have h' : cond (eqL1 (P.leadsTo f) r) (leadsB P l t) false = true := h
      cases hr : eqL1 (P.leadsTo f) r with
      | false => rw [hr] at h'; cases h'
      | true => rw [hr] at h'; rw [List.map_cons, eqL1_eq hr, ih h']
noncomputable def getT : List (List Nat) → Nat → List Nat := List.rec (motive := fun _ => Nat → List Nat) (fun _ => []) (fun r _ ih g => match g with | 0 => r | g + 1 => ih g)
noncomputable def seenT (m f : Nat) : Bool := Nat.beq (Nat.land 1 (Nat.shiftRight m f)) 1
noncomputable def closeT (tab : List (List Nat)) : Nat → List Nat → List Nat → Nat → List Nat := Nat.rec (motive := fun _ => List Nat → List Nat → Nat → List Nat) (fun _ seen _ => seen)
  (fun _ ih todo seen m => match todo with | [] => seen | f :: todo => cond (seenT m f) (ih todo seen m) (ih (getT tab f ++ todo) (f :: seen) (Nat.lor m (Nat.shiftLeft 1 f))))
theorem getT_eq : ∀ (t : List (List Nat)) (g : Nat), getT t g = (t[g]?).getD [] := by
  intro t
  induction t with
  | nil => intro g; rfl
  | cons r t ih => intro g; cases g with | zero => rfl | succ g => show getT t g = _; rw [ih, List.getElem?_cons_succ]
theorem seenT_eq (m f : Nat) : seenT m f = m.testBit f := by
  unfold seenT Nat.testBit
  show Nat.beq (1 &&& (m >>> f)) 1 = _
  have : 1 &&& (m >>> f) = (m >>> f) % 2 := by rw [Nat.and_comm, Nat.and_one_is_mod]
  rw [this]
  rcases Nat.mod_two_eq_zero_or_one (m >>> f) with h | h <;> rw [h] <;> rfl
theorem closeT_eq {P : Program} {tab : List (List Nat)} (h : P.funcs.toList.map P.leadsTo = tab) : ∀ (n : Nat) (todo seen : List Nat) (m : Nat), (∀ f, seen.contains f = m.testBit f) → P.closureVia n todo seen = (closeT tab n todo seen m).reverse := by
  intro n
  induction n with
  | zero => intro todo seen m _; unfold Program.closureVia; rfl
  | succ n ih =>
    intro todo seen m hm
    cases todo with
    | nil => unfold Program.closureVia; rfl
    | cons f todo =>
      have e : (P.funcs[f]?).elim [] P.leadsTo = getT tab f := by
        rw [getT_eq, ← h, List.getElem?_map, Array.getElem?_toList]
        cases P.funcs[f]? <;> rfl
      show (if seen.contains f then P.closureVia n todo seen else P.closureVia n ((P.funcs[f]?).elim [] P.leadsTo ++ todo) (f :: seen)) = (cond (seenT m f) (closeT tab n todo seen m) (closeT tab n (getT tab f ++ todo) (f :: seen) (Nat.lor m (Nat.shiftLeft 1 f)))).reverse
      rw [seenT_eq, ← hm f, e]
      cases hc : seen.contains f with
      | true => rw [if_pos rfl]; exact ih todo seen m hm
      | false =>
        rw [if_neg (by decide)]
        refine ih _ _ _ fun g => ?_
        show (f :: seen).contains g = Nat.testBit (m ||| (1 <<< f)) g
        rw [Nat.testBit_or, List.contains_cons, hm g, Nat.shiftLeft_eq, Nat.one_mul, Nat.testBit_two_pow]
        by_cases hg : g = f
        · subst hg; simp
        · have : (g == f) = false := by simpa using hg
          have h2 : ¬ f = g := fun h => hg h.symm
          simp [this, h2]
noncomputable def fuelT (tab : List (List Nat)) : Nat := 1 + (tab.map fun r => r.length + 1).sum
theorem closure_tab {P : Program} {tab : List (List Nat)} (h : leadsB P P.funcs.toList tab = true) (f : Nat) : P.closure f = (closeT tab (fuelT tab) [f] [] 0).reverse := by
  have h' := leadsB_map h
  unfold Program.closure fuelT
  rw [← closeT_eq h' _ [f] [] 0 (fun g => by simp)]
  congr 2
  rw [← h', List.map_map]; rfl
def closeL : List Nat := [3, 6, 7, 24, 43, 71, 23, 42, 67, 68, 121, 232, 210, 233, 113, 234, 371, 157, 224, 370, 372, 509, 510, 620, 624, 621, 622, 623, 625, 516, 235, 328, 236, 237, 122, 123, 124, 125, 238, 239, 373, 126, 127, 240, 241, 374, 195, 324, 470, 325, 409, 529, 530, 471, 593, 599, 503, 594, 702, 595, 630, 631, 596, 703, 704, 744, 597, 598, 600, 601, 242, 375, 511, 381, 389, 514, 393, 390, 376, 243, 377, 198, 69, 128, 244, 378, 513, 512, 248, 225, 379, 129, 32, 245, 131, 132, 250, 247, 382, 383, 384, 392, 394, 395, 391, 396, 246, 380, 135, 33, 255, 397, 388, 257, 402, 403, 518, 628, 519, 327, 410, 531, 404, 405, 259, 406, 398, 399, 256, 400, 517, 626, 627, 401, 258, 130, 249, 133, 251, 385, 362, 504, 515, 386, 254, 252, 387, 134, 253, 70, 136, 137, 138, 140, 262, 139, 260, 407, 261, 408, 520, 526, 634, 521, 629, 522, 523, 632, 633, 711, 524, 525, 527, 528, 141, 263, 142, 143, 264, 144, 265, 266, 267, 268, 208, 105, 196, 326, 197, 106, 199, 200, 323, 469, 589, 697, 743, 590, 699, 698, 591, 592, 700, 701, 145, 269, 25, 44, 9, 28, 46, 73, 119, 228, 319, 320, 229, 230, 231, 147, 146, 148, 120, 74, 100, 192, 27, 29, 14, 31, 30, 47, 34, 35, 48, 75, 149, 150, 151, 76, 152, 270, 153, 154, 155, 156, 271, 411, 532, 533, 635, 636, 534, 412, 535, 637, 413, 536, 638, 537, 639, 712, 538, 49, 50, 77, 158, 272, 273, 274, 275, 159, 276, 414, 160, 51, 79, 161, 277, 416, 415, 539, 162, 78, 80, 163, 278, 417, 279, 303, 349, 346, 491, 439, 571, 566, 677, 678, 485, 310, 451, 676, 364, 337, 344, 567, 573, 572, 492, 457, 493, 494, 496, 612, 707, 745, 347, 437, 568, 569, 679, 436, 304, 164, 281, 420, 280, 418, 540, 419, 541, 640, 646, 716, 641, 713, 642, 643, 714, 715, 749, 644, 645, 647, 648, 283, 282, 421, 284, 422, 423, 542, 285, 36, 52, 81, 166, 165, 286, 424, 425, 426, 543, 544, 649, 717, 287, 427, 545, 546, 289, 288, 167, 290, 428, 429, 430, 547, 446, 211, 348, 651, 650, 718, 652, 454, 456, 582, 483, 583, 690, 691, 738, 769, 584, 611, 339, 484, 442, 574, 575, 477, 467, 602, 103, 194, 321, 322, 468, 681, 733, 734, 767, 479, 606, 480, 332, 329, 472, 473, 475, 474, 476, 478, 603, 615, 486, 608, 453, 577, 609, 610, 341, 488, 487, 489, 338, 340, 490, 604, 705, 495, 444, 605, 706, 548, 653, 654, 497, 719, 549, 169, 292, 293, 431, 556, 665, 557, 558, 666, 726, 671, 725, 670, 756, 757, 669, 668, 667, 559, 672, 560, 561, 562, 655, 170, 294, 352, 432, 563, 673, 727, 728, 758, 674, 729, 675, 730, 759, 779, 760, 761, 762, 780, 433, 564, 295, 434, 351, 656, 720, 440, 657, 721, 722, 750, 775, 751, 455, 581, 776, 752, 777, 753, 754, 778, 755, 550, 658, 551, 552, 441, 565, 212, 350, 366, 506, 618, 710, 747, 748, 774, 785, 619, 507, 312, 438, 570, 680, 731, 732, 763, 764, 765, 781, 782, 766, 302, 443, 659, 723, 660, 724, 313, 452, 553, 661, 554, 662, 663, 460, 462, 61, 586, 692, 361, 693, 694, 739, 770, 740, 771, 741, 772, 783, 784, 786, 788, 787, 789, 790, 791, 696, 742, 773, 695, 555, 664, 97, 182, 316, 463, 82, 168, 291, 54, 171, 296, 172, 173, 297, 435, 298, 174, 176, 299, 83, 175, 84, 85, 177, 300, 301, 178, 305, 445, 576, 179, 306, 307, 447, 578, 309, 450, 308, 448, 579, 449, 580, 682, 683, 735, 684, 685, 736, 737, 768, 686, 687, 688, 689, 311, 86, 180, 314, 459, 458, 585, 315, 461, 87, 96, 190, 189, 181, 88, 55, 98, 191, 89, 90, 91, 183, 317, 185, 184, 186, 92, 187, 188, 318, 464, 587, 466, 465, 588, 93, 53, 95, 94, 15, 16, 37, 56, 99, 57, 101, 58, 102, 193, 8, 26, 45, 72, 22, 11, 41, 10, 12, 13]
theorem closeL_ok : eqL1 (closeT leadTab (fuelT leadTab) [3] [] 0).reverse closeL = true := by kernel_rfl
theorem closure_is : Tryz.prog.closure 3 = closeL := (closure_tab leads_ok 3).trans (eqL1_eq closeL_ok)
end Go.Ev
