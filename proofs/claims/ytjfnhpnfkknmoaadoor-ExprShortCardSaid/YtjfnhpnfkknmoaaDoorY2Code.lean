/- A part of the texts that the claim's proof needs: functions of the program as the evaluator reads them, and what they come to. Conditions: those that its theorems state. -/
import Derived.Test.YtjfnhpnfkknmoaaDoorY2CodeB
import Derived.Test.YtjfnhpnfkknmoaaDoorProg
set_option linter.unusedVariables false
set_option maxRecDepth 100000
namespace Go.Proofs.YtjfnhpnfkknmoaaDoor
open Go.Proofs.Pe
noncomputable def mds : List (Nat × Nat) := [(13, 0), (14, 0), (15, 0), (16, 0), (17, 0), (18, 0), (19, 0), (20, 0), (21, 0), (22, 0), (23, 0), (24, 0), (25, 0), (26, 0), (27, 0), (28, 0), (29, 0), (30, 0), (31, 0), (32, 0), (33, 0), (34, 0), (36, 0), (37, 0), (38, 0), (39, 0), (40, 0), (41, 0), (42, 0), (43, 0), (44, 0), (45, 0), (46, 0), (47, 0), (48, 0), (49, 0), (50, 0), (52, 0), (53, 0), (54, 0), (55, 0), (56, 0), (57, 0), (60, 0), (61, 0), (62, 0), (63, 0), (66, 0), (68, 0), (69, 0), (75, 0), (76, 0), (77, 0), (78, 0), (79, 0), (80, 0), (81, 0), (82, 0), (83, 0), (84, 0), (85, 0), (86, 0), (87, 0), (88, 0), (89, 0), (90, 0), (91, 0), (92, 0), (93, 0), (94, 0), (95, 0), (96, 0), (97, 0), (98, 0), (99, 0), (1000001, 7)]
noncomputable def ans : List (Nat × List (Nat × List Nat)) := [(5, [(0, [0, 2, 3, 4, 9, 10, 11, 12, 13, 14, 15, 16, 17, 18, 19, 20, 21, 22, 23, 24, 25, 26, 27, 28, 29, 30, 31, 32, 33, 34, 35, 36, 37, 38, 39, 40, 41, 42, 43, 44, 45, 46, 47, 48, 49, 50, 51, 52, 53, 54, 55, 56, 57, 58, 59, 60, 61, 62, 63, 64, 65, 66, 67, 68, 69, 70, 71, 72, 73, 74, 75, 76, 77, 78, 79, 80])]),
  (8, [(0, [4, 5, 6, 7, 8, 11, 12, 13, 14, 15, 16, 17, 18, 19, 20, 21, 22, 23, 24, 25, 26, 27, 28, 29, 30, 31, 32, 33, 34, 35, 36, 37, 38, 39, 40, 41, 42, 43, 44, 45, 46, 47, 48, 49, 50, 51, 52, 53, 54, 55, 56, 57, 58, 59, 60, 61, 62, 63, 64, 65, 66, 67, 68, 69, 70, 71, 72, 73, 74, 75, 76, 77, 78, 79, 80, 81, 82, 83, 84, 85, 86, 87, 88, 89, 90, 91, 92, 93, 94, 95, 96, 97, 98, 99, 100, 101, 102, 103]), (1000000, [1])]),
  (10, [(0, [0, 1, 2, 5, 6, 9, 10, 11, 12, 13, 14, 15, 16, 17, 18, 19, 20, 21, 22, 23, 24, 25, 26, 27, 28, 29, 30, 31, 32, 33, 34, 35, 36, 37, 38, 39, 40, 41, 42, 43, 44, 45, 46, 47, 48, 49, 50, 51, 52, 53, 54, 55, 56, 57, 58, 59, 60, 61, 62, 63, 64, 65, 66, 67, 68, 69, 70]), (2, [0, 1, 2, 5, 6, 11, 12, 13, 14, 15, 16, 17, 18, 19, 20, 21, 22, 23, 24, 25, 26, 27, 28, 29, 30, 31, 32, 33, 34, 35, 36, 37, 38, 39, 40, 41, 42, 43, 44, 45, 46, 47, 48, 49, 50, 51, 52, 53, 54, 55, 56, 57, 58, 59, 60, 61, 62, 63, 64, 65, 66, 67, 68, 69, 70])]),
  (11, [(0, [0, 2, 3, 4, 8, 9, 10, 11, 12, 13, 14, 15, 16, 17, 18, 19, 20, 21, 22, 23, 24, 25, 26, 27, 28, 29, 30, 31, 32, 33, 34, 35, 36, 37, 38, 39, 40, 41, 42, 43, 44, 45, 46, 47, 48, 49, 50, 51, 52, 53, 54, 55, 56, 57, 58, 59, 60]), (1000000, [1])]),
  (15, [(0, [1, 2, 3, 4, 7, 8, 9, 10, 11, 12, 13, 14, 15, 16, 17, 18, 19, 20, 21, 22, 23, 24, 25, 26, 27, 28, 29, 30, 31, 32, 33, 34, 35, 36, 37, 38, 39])]),
  (25, [(0, [0, 1, 4, 6, 7, 8, 9, 10, 11, 12, 13, 14, 15, 16, 17, 18, 19, 20, 21, 22, 23, 24, 25, 26, 27, 28, 29, 30, 31, 32, 33, 34, 35, 36, 37, 38, 39, 40, 41, 42, 43, 44, 45, 46, 47, 48, 49, 50, 51, 52])]),
  (26, [(0, [2, 3, 4, 6, 7, 8, 9, 10, 11, 12, 13, 14, 15, 16, 17, 18, 19, 20, 21, 22, 23, 24, 25])]),
  (28, [(0, [0, 2, 5, 6, 7, 8, 9, 10, 11, 12, 13, 14, 15, 16, 17, 18, 19, 20, 21, 22, 23, 24, 25, 26, 27, 28, 29, 30, 31, 32, 33, 34, 35, 36, 37, 38, 39, 40, 41, 42, 43, 44, 45, 46, 47, 48, 49, 50, 51, 52, 53, 54, 55, 56, 57, 58, 59, 60, 61]), (2, [0, 2, 7, 8, 9, 10, 11, 12, 13, 14, 15, 16, 17, 18, 19, 20, 21, 22, 23, 24, 25, 26, 27, 28, 29, 30, 31, 32, 33, 34, 35, 36, 37, 38, 39, 40, 41, 42, 43, 44, 45, 46, 47, 48, 49, 50, 51, 52, 53, 54, 55, 56, 57, 58, 59, 60, 61]), (4, [0, 2, 9, 10, 11, 12, 13, 14, 15, 16, 17, 18, 19, 20, 21, 22, 23, 24, 25, 26, 27, 28, 29, 30, 31, 32, 33, 34, 35, 36, 37, 38, 39, 40, 41, 42, 43, 44, 45, 46, 47, 48, 49, 50, 51, 52, 53, 54, 55, 56, 57, 58, 59, 60, 61])]),
  (30, [(0, [0, 3, 4, 6, 7, 8, 9, 10, 11, 12, 13, 14, 15, 16, 17, 18, 19, 20, 21, 22, 23, 24, 25, 26, 27, 28, 29])]),
  (32, [(1, [0, 3, 4, 7, 8, 9, 10, 11, 12, 13, 14, 15, 16, 17, 18, 19, 20, 21, 22, 23, 24, 25, 26, 27, 28, 29, 30, 31, 32, 33, 34, 35, 36, 37, 38, 39, 40, 41, 42, 43, 44, 45, 46, 47, 48, 49, 50, 51, 52, 53, 54, 55, 56, 57, 58, 59, 60, 61, 62, 63, 64, 65, 66, 67, 68, 69, 70, 71, 72, 73, 74, 75, 76, 77, 78, 79, 80, 81, 82, 83])]),
  (33, [(0, [2, 3, 4, 5, 6, 7, 8, 9, 10, 11, 12, 13, 14, 15, 16, 17, 18, 19, 20, 21, 22, 23, 24, 25, 26, 27, 28, 29, 30, 31, 32, 33, 34, 35, 36, 37, 38, 39, 40, 41, 42, 43, 44, 45, 46]), (3, [2, 3, 4, 5, 6, 7, 8, 9, 10, 11, 12, 13, 14, 15, 16, 17, 18, 19, 20, 21, 22, 23, 24, 25, 26, 27, 28, 29, 30, 31, 32, 33, 34, 35, 36, 37, 38, 39, 40, 41, 42, 43, 44, 45, 46])]),
  (34, [(1, [2, 3, 5, 7, 8, 9, 10, 11, 12, 13, 14, 15, 16, 17, 18, 19, 20, 21, 22, 23, 24, 25, 26, 27, 28, 29, 30, 31, 32, 33, 34, 35, 36, 37, 38, 39, 40, 41, 42, 43, 44, 45, 46, 47, 48, 49, 50, 51, 52, 53, 54, 55, 56, 57, 58, 59, 60, 61, 62, 63, 64, 65, 66, 67, 68, 69, 70, 71, 72, 73, 74, 75, 76, 77, 78, 79, 80, 81, 82, 83, 84, 85, 86, 87, 88, 89, 90, 91, 92, 93, 94, 95, 96, 97]), (3, [2, 3, 5, 8, 9, 10, 11, 12, 13, 14, 15, 16, 17, 18, 19, 20, 21, 22, 23, 24, 25, 26, 27, 28, 29, 30, 31, 32, 33, 34, 35, 36, 37, 38, 39, 40, 41, 42, 43, 44, 45, 46, 47, 48, 49, 50, 51, 52, 53, 54, 55, 56, 57, 58, 59, 60, 61, 62, 63, 64, 65, 66, 67, 68, 69, 70, 71, 72, 73, 74, 75, 76, 77, 78, 79, 80, 81, 82, 83, 84, 85, 86, 87, 88, 89, 90, 91, 92, 93, 94, 95, 96, 97])]),
  (42, [(0, [2, 3, 4, 7, 8, 9, 10, 11, 12, 13, 14, 15, 16, 17, 18, 19, 20, 21, 22, 23, 24, 25, 26, 27, 28, 29, 30])]),
  (50, [(0, [0, 1, 2, 4, 5, 6, 7, 8, 9, 10, 11, 12, 13, 14, 15, 16, 17, 18, 19, 20, 21, 22, 23])]),
  (56, [(0, [2, 3, 4, 6, 7, 8, 9, 10, 11, 12, 13, 14, 15, 16, 17, 18, 19, 20, 21, 22, 23, 24, 25, 26, 27, 28, 29, 30, 31, 32, 33, 34, 35, 36, 37]), (2, [2, 3, 4, 5, 7, 8, 9, 10, 11, 12, 13, 14, 15, 16, 17, 18, 19, 20, 21, 22, 23, 24, 25, 26, 27, 28, 29, 30, 31, 32, 33, 34, 35, 36, 37])]),
  (59, [(0, [0, 1, 2, 4, 7, 8, 9, 10, 11, 12, 13, 14, 15, 16, 17, 18, 19, 20, 21, 22, 23, 24, 25, 26, 27])]),
  (65, [(0, [0, 2, 3, 4, 5, 6, 7, 8, 9, 10, 11, 15, 16, 17, 18, 19, 20, 21, 22])]),
  (66, [(0, [2, 3, 4, 5, 6, 9, 10, 11, 12, 13, 14, 15, 16, 17, 18])]),
  (69, [(0, [0, 1, 2, 3, 4, 5, 6, 7, 8, 9, 10, 11, 12, 13, 14, 15, 16, 17, 19, 20, 21, 22, 23, 24, 25, 26, 27, 28, 29, 30, 31, 32, 33, 34, 35, 36, 37, 38, 39, 40])]),
  (76, [(0, [0, 1, 2, 3, 4, 7, 8, 9, 10, 11, 12, 13, 14, 15, 16, 17, 18, 19, 20, 21, 22, 23, 24, 25, 26, 27, 28, 29, 30, 31, 32, 33, 34, 35, 36, 37, 38, 39, 40, 41, 42, 43, 44, 45, 46, 50, 51, 52, 53, 54, 55, 56, 57, 58, 59, 60, 61, 62, 63, 64, 65, 66, 67, 68, 69, 70, 71, 72, 73, 74, 75, 76])]),
  (83, [(0, [2, 3, 5, 6, 7, 8, 9, 10, 11, 12, 13, 14, 15, 16, 17, 18, 19, 20, 21, 22, 23, 24, 25, 26, 27, 28, 29, 30, 31, 32, 33, 34, 35, 36, 37, 38, 39, 40, 41, 42, 43, 44, 45, 46, 47, 48, 49, 50, 51, 52, 53, 54, 55, 56, 57, 58, 59, 60, 61, 62, 63, 64, 65, 66, 67, 68, 69, 70, 71, 72, 73, 74, 75, 76, 77, 78, 79, 80, 81, 82, 83, 84, 85, 86, 87, 88, 89, 90, 91, 92, 93, 94, 95, 96, 97, 98, 99, 100, 101, 102, 103, 104, 105, 106, 107, 108, 109, 110, 111, 112, 113, 114, 115, 116, 117, 118, 119, 120, 121, 122, 123, 124, 125, 126, 127, 128, 129, 130, 131, 132, 133, 134, 135, 136, 137, 138, 139, 140, 141, 142, 143, 144, 145, 146, 147, 148, 149, 150, 151, 152, 153, 154, 155, 156, 157, 158, 159, 160, 161, 162, 163, 164, 165, 166])]),
  (84, [(0, [2, 5, 6, 7, 8, 9, 17, 18, 19, 20, 21, 22, 23, 24, 25, 26, 27, 28, 29, 30, 31, 32, 33, 34, 35, 36, 37, 38, 39, 40, 41, 42, 43, 44, 45, 46, 47, 48, 49, 50, 51, 52, 53, 54, 55, 56, 57, 58, 59, 60, 61, 62, 63, 64, 65, 66, 67, 68, 69, 70, 71, 72, 73, 74, 75, 76, 77, 78, 79, 80, 81, 82, 83, 84, 85, 86, 87, 88, 89, 90, 91, 92, 93, 94, 95, 96, 97, 98, 99, 100, 101]), (2, [2, 5, 6, 7, 8, 9, 14, 15, 16, 18, 19, 20, 21, 22, 23, 24, 25, 26, 27, 28, 29, 30, 31, 32, 33, 34, 35, 36, 37, 38, 39, 40, 41, 42, 43, 44, 45, 46, 47, 48, 49, 50, 51, 52, 53, 54, 55, 56, 57, 58, 59, 60, 61, 62, 63, 64, 65, 66, 67, 68, 69, 70, 71, 72, 73, 74, 75, 76, 77, 78, 79, 80, 81, 82, 83, 84, 85, 86, 87, 88, 89, 90, 91, 92, 93, 94, 95, 96, 97, 98, 99, 100, 101])]),
  (97, [(3, [0, 2, 3, 4, 5, 6, 7, 14, 15, 16, 17, 18, 19, 20, 21, 22, 23, 24, 25, 26, 27, 28, 29, 30, 31, 32, 33, 34, 35, 36, 37, 38, 39, 40, 41, 42, 43, 44, 45, 46, 47, 48, 49, 50, 51, 52, 53, 54, 55, 56, 57, 58, 59, 60, 61, 62, 63, 64, 65, 66, 67, 68, 69, 70, 71, 72, 73, 74, 75, 76, 77, 78, 79, 80, 81, 82, 83, 84, 85, 86, 87, 88, 89, 90, 91, 92, 93, 94, 95, 96, 97, 98, 102, 103, 104, 105, 106, 107, 108, 109, 110, 111, 112, 113, 114, 115, 116, 117, 118, 119, 120, 121, 122, 123, 124, 125, 126, 127, 128, 129, 130, 131, 132, 133, 134, 135, 136, 137, 138, 139, 140, 141, 142, 143, 144, 145, 146, 147, 148, 149, 150, 151, 152, 153, 154, 155, 156, 157, 158, 159, 160, 161, 162, 163, 164, 165, 166, 167, 168, 169, 170, 171])])]
noncomputable def cfs : List (Nat × CF) := [(3, c3), (4, c4), (5, c5), (6, c6), (7, c7), (8, c8), (9, c9), (10, c10), (11, c11), (12, c12), (13, c13), (14, c14), (15, c15), (16, c16), (17, c17), (18, c18), (19, c19), (20, c20), (21, c21), (22, c22), (23, c23), (24, c24), (25, c25), (26, c26), (27, c27), (28, c28), (29, c29), (30, c30), (31, c31), (32, c32), (33, c33), (34, c34), (35, c35), (36, c36), (37, c37), (38, c38), (39, c39), (40, c40), (41, c41), (42, c42), (43, c43), (44, c44), (45, c45), (46, c46), (47, c47), (48, c48), (49, c49), (50, c50), (51, c51), (52, c52), (53, c53), (54, c54), (55, c55), (56, c56), (57, c57), (58, c58), (59, c59), (60, c60), (61, c61), (62, c62), (63, c63), (64, c64), (65, c65), (66, c66), (67, c67), (68, c68), (69, c69), (70, c70), (71, c71), (72, c72), (73, c73), (74, c74), (75, c75), (76, c76), (77, c77), (78, c78), (79, c79), (80, c80), (81, c81), (82, c82), (83, c83), (84, c84), (85, c85), (86, c86), (87, c87), (88, c88), (89, c89), (90, c90), (91, c91), (92, c92), (93, c93), (94, c94), (95, c95), (96, c96), (97, c97), (98, c98), (99, c99)]
noncomputable def T : Tab := mkTab mds ans cfs
theorem k3 : compF Tryd.prog T.mode T.an 3 = some c3 := by kernel_rfl
theorem k4 : compF Tryd.prog T.mode T.an 4 = some c4 := by kernel_rfl
theorem k5 : compF Tryd.prog T.mode T.an 5 = some c5 := by kernel_rfl
theorem k6 : compF Tryd.prog T.mode T.an 6 = some c6 := by kernel_rfl
theorem k7 : compF Tryd.prog T.mode T.an 7 = some c7 := by kernel_rfl
theorem k8 : compF Tryd.prog T.mode T.an 8 = some c8 := by kernel_rfl
theorem k9 : compF Tryd.prog T.mode T.an 9 = some c9 := by kernel_rfl
theorem k10 : compF Tryd.prog T.mode T.an 10 = some c10 := by kernel_rfl
theorem k11 : compF Tryd.prog T.mode T.an 11 = some c11 := by kernel_rfl
theorem k12 : compF Tryd.prog T.mode T.an 12 = some c12 := by kernel_rfl
theorem k13 : compF Tryd.prog T.mode T.an 13 = some c13 := by kernel_rfl
theorem k14 : compF Tryd.prog T.mode T.an 14 = some c14 := by kernel_rfl
theorem k15 : compF Tryd.prog T.mode T.an 15 = some c15 := by kernel_rfl
theorem k16 : compF Tryd.prog T.mode T.an 16 = some c16 := by kernel_rfl
theorem k17 : compF Tryd.prog T.mode T.an 17 = some c17 := by kernel_rfl
theorem k18 : compF Tryd.prog T.mode T.an 18 = some c18 := by kernel_rfl
theorem k19 : compF Tryd.prog T.mode T.an 19 = some c19 := by kernel_rfl
theorem k20 : compF Tryd.prog T.mode T.an 20 = some c20 := by kernel_rfl
theorem k21 : compF Tryd.prog T.mode T.an 21 = some c21 := by kernel_rfl
theorem k22 : compF Tryd.prog T.mode T.an 22 = some c22 := by kernel_rfl
theorem k23 : compF Tryd.prog T.mode T.an 23 = some c23 := by kernel_rfl
theorem k24 : compF Tryd.prog T.mode T.an 24 = some c24 := by kernel_rfl
theorem k25 : compF Tryd.prog T.mode T.an 25 = some c25 := by kernel_rfl
theorem k26 : compF Tryd.prog T.mode T.an 26 = some c26 := by kernel_rfl
theorem k27 : compF Tryd.prog T.mode T.an 27 = some c27 := by kernel_rfl
theorem k28 : compF Tryd.prog T.mode T.an 28 = some c28 := by kernel_rfl
theorem k29 : compF Tryd.prog T.mode T.an 29 = some c29 := by kernel_rfl
theorem k30 : compF Tryd.prog T.mode T.an 30 = some c30 := by kernel_rfl
theorem k31 : compF Tryd.prog T.mode T.an 31 = some c31 := by kernel_rfl
theorem k32 : compF Tryd.prog T.mode T.an 32 = some c32 := by kernel_rfl
theorem k33 : compF Tryd.prog T.mode T.an 33 = some c33 := by kernel_rfl
theorem k34 : compF Tryd.prog T.mode T.an 34 = some c34 := by kernel_rfl
theorem k35 : compF Tryd.prog T.mode T.an 35 = some c35 := by kernel_rfl
theorem k36 : compF Tryd.prog T.mode T.an 36 = some c36 := by kernel_rfl
theorem k37 : compF Tryd.prog T.mode T.an 37 = some c37 := by kernel_rfl
theorem k38 : compF Tryd.prog T.mode T.an 38 = some c38 := by kernel_rfl
theorem k39 : compF Tryd.prog T.mode T.an 39 = some c39 := by kernel_rfl
theorem k40 : compF Tryd.prog T.mode T.an 40 = some c40 := by kernel_rfl
theorem k41 : compF Tryd.prog T.mode T.an 41 = some c41 := by kernel_rfl
theorem k42 : compF Tryd.prog T.mode T.an 42 = some c42 := by kernel_rfl
theorem k43 : compF Tryd.prog T.mode T.an 43 = some c43 := by kernel_rfl
theorem k44 : compF Tryd.prog T.mode T.an 44 = some c44 := by kernel_rfl
theorem k45 : compF Tryd.prog T.mode T.an 45 = some c45 := by kernel_rfl
theorem k46 : compF Tryd.prog T.mode T.an 46 = some c46 := by kernel_rfl
theorem k47 : compF Tryd.prog T.mode T.an 47 = some c47 := by kernel_rfl
theorem k48 : compF Tryd.prog T.mode T.an 48 = some c48 := by kernel_rfl
theorem k49 : compF Tryd.prog T.mode T.an 49 = some c49 := by kernel_rfl
theorem k50 : compF Tryd.prog T.mode T.an 50 = some c50 := by kernel_rfl
theorem k51 : compF Tryd.prog T.mode T.an 51 = some c51 := by kernel_rfl
theorem k52 : compF Tryd.prog T.mode T.an 52 = some c52 := by kernel_rfl
theorem k53 : compF Tryd.prog T.mode T.an 53 = some c53 := by kernel_rfl
theorem k54 : compF Tryd.prog T.mode T.an 54 = some c54 := by kernel_rfl
theorem k55 : compF Tryd.prog T.mode T.an 55 = some c55 := by kernel_rfl
theorem k56 : compF Tryd.prog T.mode T.an 56 = some c56 := by kernel_rfl
theorem k57 : compF Tryd.prog T.mode T.an 57 = some c57 := by kernel_rfl
theorem k58 : compF Tryd.prog T.mode T.an 58 = some c58 := by kernel_rfl
theorem k59 : compF Tryd.prog T.mode T.an 59 = some c59 := by kernel_rfl
theorem k60 : compF Tryd.prog T.mode T.an 60 = some c60 := by kernel_rfl
theorem k61 : compF Tryd.prog T.mode T.an 61 = some c61 := by kernel_rfl
theorem k62 : compF Tryd.prog T.mode T.an 62 = some c62 := by kernel_rfl
theorem k63 : compF Tryd.prog T.mode T.an 63 = some c63 := by kernel_rfl
theorem k64 : compF Tryd.prog T.mode T.an 64 = some c64 := by kernel_rfl
theorem k65 : compF Tryd.prog T.mode T.an 65 = some c65 := by kernel_rfl
theorem k66 : compF Tryd.prog T.mode T.an 66 = some c66 := by kernel_rfl
theorem k67 : compF Tryd.prog T.mode T.an 67 = some c67 := by kernel_rfl
theorem k68 : compF Tryd.prog T.mode T.an 68 = some c68 := by kernel_rfl
theorem k69 : compF Tryd.prog T.mode T.an 69 = some c69 := by kernel_rfl
theorem k70 : compF Tryd.prog T.mode T.an 70 = some c70 := by kernel_rfl
theorem k71 : compF Tryd.prog T.mode T.an 71 = some c71 := by kernel_rfl
theorem k72 : compF Tryd.prog T.mode T.an 72 = some c72 := by kernel_rfl
theorem k73 : compF Tryd.prog T.mode T.an 73 = some c73 := by kernel_rfl
theorem k74 : compF Tryd.prog T.mode T.an 74 = some c74 := by kernel_rfl
theorem k75 : compF Tryd.prog T.mode T.an 75 = some c75 := by kernel_rfl
theorem k76 : compF Tryd.prog T.mode T.an 76 = some c76 := by kernel_rfl
theorem k77 : compF Tryd.prog T.mode T.an 77 = some c77 := by kernel_rfl
theorem k78 : compF Tryd.prog T.mode T.an 78 = some c78 := by kernel_rfl
theorem k79 : compF Tryd.prog T.mode T.an 79 = some c79 := by kernel_rfl
theorem k80 : compF Tryd.prog T.mode T.an 80 = some c80 := by kernel_rfl
theorem k81 : compF Tryd.prog T.mode T.an 81 = some c81 := by kernel_rfl
theorem k82 : compF Tryd.prog T.mode T.an 82 = some c82 := by kernel_rfl
theorem k83 : compF Tryd.prog T.mode T.an 83 = some c83 := by kernel_rfl
theorem k84 : compF Tryd.prog T.mode T.an 84 = some c84 := by kernel_rfl
theorem k85 : compF Tryd.prog T.mode T.an 85 = some c85 := by kernel_rfl
theorem k86 : compF Tryd.prog T.mode T.an 86 = some c86 := by kernel_rfl
theorem k87 : compF Tryd.prog T.mode T.an 87 = some c87 := by kernel_rfl
theorem k88 : compF Tryd.prog T.mode T.an 88 = some c88 := by kernel_rfl
theorem k89 : compF Tryd.prog T.mode T.an 89 = some c89 := by kernel_rfl
theorem k90 : compF Tryd.prog T.mode T.an 90 = some c90 := by kernel_rfl
theorem k91 : compF Tryd.prog T.mode T.an 91 = some c91 := by kernel_rfl
theorem k92 : compF Tryd.prog T.mode T.an 92 = some c92 := by kernel_rfl
theorem k93 : compF Tryd.prog T.mode T.an 93 = some c93 := by kernel_rfl
theorem k94 : compF Tryd.prog T.mode T.an 94 = some c94 := by kernel_rfl
theorem k95 : compF Tryd.prog T.mode T.an 95 = some c95 := by kernel_rfl
theorem k96 : compF Tryd.prog T.mode T.an 96 = some c96 := by kernel_rfl
theorem k97 : compF Tryd.prog T.mode T.an 97 = some c97 := by kernel_rfl
theorem k98 : compF Tryd.prog T.mode T.an 98 = some c98 := by kernel_rfl
theorem k99 : compF Tryd.prog T.mode T.an 99 = some c99 := by kernel_rfl
theorem tOk : TOk Tryd.prog T := tok ⟨k3, k4, k5, k6, k7, k8, k9, k10, k11, k12, k13, k14, k15, k16, k17, k18, k19, k20, k21, k22, k23, k24, k25, k26, k27, k28, k29, k30, k31, k32, k33, k34, k35, k36, k37, k38, k39, k40, k41, k42, k43, k44, k45, k46, k47, k48, k49, k50, k51, k52, k53, k54, k55, k56, k57, k58, k59, k60, k61, k62, k63, k64, k65, k66, k67, k68, k69, k70, k71, k72, k73, k74, k75, k76, k77, k78, k79, k80, k81, k82, k83, k84, k85, k86, k87, k88, k89, k90, k91, k92, k93, k94, k95, k96, k97, k98, k99, trivial⟩
theorem t3 : T.cf 3 = some c3 := rfl
theorem t4 : T.cf 4 = some c4 := rfl
theorem t5 : T.cf 5 = some c5 := rfl
theorem t6 : T.cf 6 = some c6 := rfl
theorem t7 : T.cf 7 = some c7 := rfl
theorem t8 : T.cf 8 = some c8 := rfl
theorem t9 : T.cf 9 = some c9 := rfl
theorem t10 : T.cf 10 = some c10 := rfl
theorem t11 : T.cf 11 = some c11 := rfl
theorem t12 : T.cf 12 = some c12 := rfl
theorem t13 : T.cf 13 = some c13 := rfl
theorem t14 : T.cf 14 = some c14 := rfl
theorem t15 : T.cf 15 = some c15 := rfl
theorem t16 : T.cf 16 = some c16 := rfl
theorem t17 : T.cf 17 = some c17 := rfl
theorem t18 : T.cf 18 = some c18 := rfl
theorem t19 : T.cf 19 = some c19 := rfl
theorem t20 : T.cf 20 = some c20 := rfl
theorem t21 : T.cf 21 = some c21 := rfl
theorem t22 : T.cf 22 = some c22 := rfl
theorem t23 : T.cf 23 = some c23 := rfl
theorem t24 : T.cf 24 = some c24 := rfl
theorem t25 : T.cf 25 = some c25 := rfl
theorem t26 : T.cf 26 = some c26 := rfl
theorem t27 : T.cf 27 = some c27 := rfl
theorem t28 : T.cf 28 = some c28 := rfl
theorem t29 : T.cf 29 = some c29 := rfl
theorem t30 : T.cf 30 = some c30 := rfl
theorem t31 : T.cf 31 = some c31 := rfl
theorem t32 : T.cf 32 = some c32 := rfl
theorem t33 : T.cf 33 = some c33 := rfl
theorem t34 : T.cf 34 = some c34 := rfl
theorem t35 : T.cf 35 = some c35 := rfl
theorem t36 : T.cf 36 = some c36 := rfl
theorem t37 : T.cf 37 = some c37 := rfl
theorem t38 : T.cf 38 = some c38 := rfl
theorem t39 : T.cf 39 = some c39 := rfl
theorem t40 : T.cf 40 = some c40 := rfl
theorem t41 : T.cf 41 = some c41 := rfl
theorem t42 : T.cf 42 = some c42 := rfl
theorem t43 : T.cf 43 = some c43 := rfl
theorem t44 : T.cf 44 = some c44 := rfl
theorem t45 : T.cf 45 = some c45 := rfl
theorem t46 : T.cf 46 = some c46 := rfl
theorem t47 : T.cf 47 = some c47 := rfl
theorem t48 : T.cf 48 = some c48 := rfl
theorem t49 : T.cf 49 = some c49 := rfl
theorem t50 : T.cf 50 = some c50 := rfl
theorem t51 : T.cf 51 = some c51 := rfl
theorem t52 : T.cf 52 = some c52 := rfl
theorem t53 : T.cf 53 = some c53 := rfl
theorem t54 : T.cf 54 = some c54 := rfl
theorem t55 : T.cf 55 = some c55 := rfl
theorem t56 : T.cf 56 = some c56 := rfl
theorem t57 : T.cf 57 = some c57 := rfl
theorem t58 : T.cf 58 = some c58 := rfl
theorem t59 : T.cf 59 = some c59 := rfl
theorem t60 : T.cf 60 = some c60 := rfl
theorem t61 : T.cf 61 = some c61 := rfl
theorem t62 : T.cf 62 = some c62 := rfl
theorem t63 : T.cf 63 = some c63 := rfl
theorem t64 : T.cf 64 = some c64 := rfl
theorem t65 : T.cf 65 = some c65 := rfl
theorem t66 : T.cf 66 = some c66 := rfl
theorem t67 : T.cf 67 = some c67 := rfl
theorem t68 : T.cf 68 = some c68 := rfl
theorem t69 : T.cf 69 = some c69 := rfl
theorem t70 : T.cf 70 = some c70 := rfl
theorem t71 : T.cf 71 = some c71 := rfl
theorem t72 : T.cf 72 = some c72 := rfl
theorem t73 : T.cf 73 = some c73 := rfl
theorem t74 : T.cf 74 = some c74 := rfl
theorem t75 : T.cf 75 = some c75 := rfl
theorem t76 : T.cf 76 = some c76 := rfl
theorem t77 : T.cf 77 = some c77 := rfl
theorem t78 : T.cf 78 = some c78 := rfl
theorem t79 : T.cf 79 = some c79 := rfl
theorem t80 : T.cf 80 = some c80 := rfl
theorem t81 : T.cf 81 = some c81 := rfl
theorem t82 : T.cf 82 = some c82 := rfl
theorem t83 : T.cf 83 = some c83 := rfl
theorem t84 : T.cf 84 = some c84 := rfl
theorem t85 : T.cf 85 = some c85 := rfl
theorem t86 : T.cf 86 = some c86 := rfl
theorem t87 : T.cf 87 = some c87 := rfl
theorem t88 : T.cf 88 = some c88 := rfl
theorem t89 : T.cf 89 = some c89 := rfl
theorem t90 : T.cf 90 = some c90 := rfl
theorem t91 : T.cf 91 = some c91 := rfl
theorem t92 : T.cf 92 = some c92 := rfl
theorem t93 : T.cf 93 = some c93 := rfl
theorem t94 : T.cf 94 = some c94 := rfl
theorem t95 : T.cf 95 = some c95 := rfl
theorem t96 : T.cf 96 = some c96 := rfl
theorem t97 : T.cf 97 = some c97 := rfl
theorem t98 : T.cf 98 = some c98 := rfl
theorem t99 : T.cf 99 = some c99 := rfl
theorem mixed : Tryd.prog.follows .mixedOrders = true := by kernel_rfl
end Go.Proofs.YtjfnhpnfkknmoaaDoor
