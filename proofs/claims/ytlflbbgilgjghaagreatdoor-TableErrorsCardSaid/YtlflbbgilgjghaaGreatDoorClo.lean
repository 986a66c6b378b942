/- What the function comes to; closed facts of the row. -/
import Derived.Test.YtlflbbgilgjghaaGreatDoorRows
import Derived.ClosedOfChecked
import Derived.KernelRfl
import Derived.Test.YtlflbbgilgjghaaGreatDoorProg
import GoSem.ClaimFn
import Derived.JoinedOf
set_option linter.all false
set_option linter.unusedVariables false
set_option linter.unusedSimpArgs false
namespace Go.Proofs.YtlflbbgilgjghaaGreatDoor
open Go
set_option maxRecDepth 1000000
theorem hty0 : Tryz.checked.prog.types = Tryz.checked.src.types := by kernel_rfl
theorem rest0 : (Tryz.checked.prog.globals.all (fun g => decide (g.type < Tryz.checked.prog.types.size)) && Tryz.checked.prog.funcs.all (fun f => f.params.all fun t => decide (t < Tryz.checked.prog.types.size))) = true := by kernel_rfl
theorem keys0 : ClosedOfChecked.keysListB Tryz.checked.prog = true := by kernel_rfl
theorem closed0 : laidOutB Tryz.checked.prog = true ∧ mapsRowed Tryz.checked.prog = true ∧ Tryz.checked.prog.plainKeys = true := ClosedOfChecked.closed_of_checked Tryz.checked hty0 rest0 keys0
end Go.Proofs.YtlflbbgilgjghaaGreatDoor
namespace Go.AX
open Go Go.Proofs
noncomputable section
/-- The functions come to, those that were met in a mask. -/
def clo (P : Program) : (fuel : Nat) → (todo seen : List FuncId) → (mask : Nat) → List FuncId
  | 0, _, seen, _ => seen.reverse
  | _, [], seen, _ => seen.reverse
  | n + 1, f :: todo, seen, mask => match Nat.testBit mask f with
    | true => clo P n todo seen mask
    | false => clo P n ((P.funcs[f]?).elim [] P.leadsTo ++ todo) (f :: seen) (Nat.lor mask (Nat.pow 2 f))
end
theorem clo_eq (P : Program) : ∀ (n : Nat) (todo seen : List FuncId) (mask : Nat), (∀ f, Nat.testBit mask f = seen.contains f) → P.closureVia n todo seen = clo P n todo seen mask
  | 0, todo, seen, mask, _ => by cases todo <;> rfl
  | n + 1, [], seen, mask, _ => rfl
  | n + 1, f :: todo, seen, mask, h => by
    rw [Program.closureVia, clo, h f]
    by_cases hc : seen.contains f = true
    · rw [if_pos hc, hc]
      exact clo_eq P n todo seen mask h
    · rw [if_neg hc]
      have hc' : seen.contains f = false := by simpa using hc
      rw [hc']
      refine clo_eq P n _ _ _ fun g => ?_
      have e : Nat.lor mask (Nat.pow 2 f) = mask ||| 2 ^ f := rfl
      rw [e, Nat.testBit_or, h g, Nat.testBit_two_pow, List.contains_cons, Bool.or_comm]
      congr 1
      rw [Bool.eq_iff_iff, decide_eq_true_iff, beq_iff_eq]
      exact eq_comm
def closed3 : List FuncId := [3, 4, 5, 7, 46, 125, 9, 8, 47, 48, 126, 49, 50, 51, 52, 127, 239, 251, 240, 370, 253, 228, 361, 241, 128, 243, 372, 242, 371, 41, 106, 107, 220, 355, 356, 219, 346, 352, 470, 347, 465, 348, 466, 467, 349, 468, 469, 515, 350, 351, 353, 354, 108, 43, 111, 112, 53, 129, 130, 244, 118, 131, 245, 229, 132, 246, 247, 248, 133, 249, 134, 250, 373, 374, 453, 457, 458, 514, 565, 592, 54, 135, 137, 136, 252, 375, 55, 138, 254, 139, 97, 209, 255, 376, 226, 230, 144, 267, 256, 377, 480, 387, 529, 268, 563, 481, 378, 257, 379, 482, 380, 381, 483, 530, 531, 532, 533, 102, 258, 382, 140, 259, 383, 260, 141, 261, 367, 478, 454, 450, 344, 262, 263, 345, 237, 264, 384, 464, 456, 484, 462, 460, 142, 116, 223, 358, 471, 359, 472, 473, 474, 516, 475, 517, 566, 567, 593, 518, 568, 594, 612, 617, 595, 596, 597, 225, 114, 221, 6, 32, 96, 208, 98, 33, 34, 35, 99, 113, 117, 36, 37, 100, 210, 110, 211, 265, 217, 38, 101, 103, 212, 213, 338, 215, 342, 459, 461, 363, 343, 386, 463, 214, 339, 451, 512, 452, 513, 341, 455, 340, 216, 42, 109, 39, 40, 104, 105, 218, 44, 115, 222, 357, 234, 119, 224, 360, 45, 120, 227, 121, 231, 143, 266, 385, 362, 232, 233, 236, 366, 235, 364, 476, 365, 477, 519, 525, 572, 520, 569, 521, 522, 570, 571, 598, 523, 524, 526, 527, 238, 368, 369, 479, 528, 123, 122, 124, 10, 56, 57, 59, 58, 60, 31, 11, 61, 62, 145, 146, 269, 270, 29, 95, 28, 94, 207, 27, 88, 76, 89, 199, 325, 164, 290, 289, 200, 327, 326, 201, 328, 329, 448, 68, 154, 274, 173, 275, 300, 420, 504, 335, 421, 422, 276, 389, 390, 392, 391, 393, 202, 330, 331, 332, 333, 394, 155, 277, 203, 82, 191, 319, 437, 443, 511, 438, 508, 439, 440, 509, 510, 564, 441, 442, 444, 445, 90, 91, 177, 180, 188, 184, 197, 323, 324, 181, 308, 92, 93, 172, 204, 205, 334, 336, 449, 174, 206, 337, 175, 301, 16, 70, 71, 63, 14, 147, 157, 64, 148, 271, 168, 388, 170, 292, 293, 294, 415, 501, 502, 503, 418, 295, 296, 297, 416, 417, 419, 485, 298, 299, 85, 67, 153, 152, 160, 281, 273, 193, 320, 446, 404, 158, 278, 395, 396, 410, 496, 497, 498, 486, 535, 536, 573, 537, 574, 599, 534, 411, 149, 150, 151, 272, 397, 398, 487, 538, 544, 578, 539, 575, 540, 541, 576, 577, 600, 542, 543, 545, 546, 399, 72, 159, 279, 400, 401, 280, 402, 403, 77, 176, 302, 423, 303, 424, 316, 433, 432, 161, 162, 282, 283, 284, 78, 178, 304, 425, 505, 305, 179, 306, 307, 313, 430, 506, 431, 194, 195, 321, 447, 185, 310, 429, 314, 196, 322, 426, 427, 285, 405, 406, 488, 407, 489, 547, 490, 491, 548, 549, 408, 492, 550, 493, 551, 579, 580, 581, 582, 553, 552, 494, 554, 583, 555, 584, 585, 601, 613, 556, 409, 495, 557, 586, 602, 603, 614, 604, 605, 615, 616, 618, 606, 607, 608, 609, 558, 559, 163, 286, 287, 413, 412, 499, 288, 291, 414, 500, 560, 587, 588, 561, 589, 562, 590, 610, 611, 591, 165, 20, 26, 86, 87, 198, 79, 182, 183, 309, 428, 186, 311, 187, 312, 315, 17, 30, 12, 65, 81, 13, 66, 15, 25, 83, 84, 192, 69, 156, 18, 19, 73, 166, 167, 74, 169, 171, 75, 21, 80, 189, 190, 317, 434, 435, 318, 436, 507, 22, 23, 24]
set_option maxRecDepth 1000000
theorem fuel3 : 1 + (Tryz.prog.funcs.toList.map fun g => (Tryz.prog.leadsTo g).length + 1).sum = 2181 := by kernel_rfl
theorem run3 : clo Tryz.prog 2181 [3] [] 0 = closed3 := by kernel_rfl
theorem closure3 : Tryz.prog.closure 3 = closed3 := by
  unfold Program.closure
  rw [fuel3]
  exact (clo_eq Tryz.prog _ [3] [] 0 (fun f => Nat.zero_testBit f)).trans run3
end Go.AX
namespace Go.Proofs.YtlflbbgilgjghaaGreatDoor
open Go Go.AX
set_option maxRecDepth 1000000
theorem k10 : (Rows.tableErrorsRow.inPlace == Tryz.prog.inPlace 3) = true := by
  unfold Program.inPlace
  rw [closure3]
  kernel_rfl
theorem k11a : Tryz.prog.unfollowed 3 = true := by
  unfold Program.unfollowed
  rw [closure3]
  kernel_rfl
theorem k11 : (Rows.tableErrorsRow.unfollowed == Tryz.prog.unfollowed 3) = true := by rw [k11a]; rfl
theorem k12 : (Rows.tableErrorsRow.recurses == Tryz.prog.recurses 3) = true := by unfold Program.recurses; rw [k11a]; rfl
theorem k13 : (Rows.tableErrorsRow.named == Tryz.prog.varsNamed 3) = true := by
  unfold Program.varsNamed
  rw [closure3]
  kernel_rfl
end Go.Proofs.YtlflbbgilgjghaaGreatDoor
