/- The heaps of the pieces of a run, more (by a program of our own). -/
import Derived.Test.YtibaafmjbmnpjaaGreatDoorKYA
import Derived.Test.YtibaafmjbmnpjaaGreatDoorE4
set_option linter.unusedVariables false
namespace Go.Ev
open Go Go.Proofs
noncomputable def h133A : AV := (vl [(.ptr 528 0)])
noncomputable def h133L : HL := [(526, (.cells 2048 (ctAll 2048 .nils))), (527, (.map [] 0)), (528, (c1 12 [(vi 1048576), (.slc 526 0 2048 2048 1 true), .nils, (.map 527), (.slc 530 0 2673 2673 1 true), (vi 2673), (.slc 531 0 0 0 1 true), (vm 0), (vi 0), (.bool false), .nilp, .nils])), (530, (.bytes 2673 x5h)), (531, (.bytes 0 0))]
noncomputable def h133V : AV := (vt [(.ptr 532 0), (vi 0)])
noncomputable def h133M : HL := mergeL [(532, (c1 6 [(.ptr 528 0), (vu 1), (.slc 533 0 2673 2673 1 true), (.slc 534 0 3 3 1 false), (vi 2673), (vu 0)])), (533, (.bytes 2673 x5h)), (534, (c1 3 [(vi 0), (vi 1048), (vi 2112)]))] [] h133L
def h133O : List Nat := [533, 534, 659]
noncomputable def h133S := oracleK 121 h133A 532 h133L h133V 535 h133M sumsC
noncomputable def h134A : AV := (vl [(.ptr 539 0), (vu 1)])
noncomputable def h134L : HL := mergeL [(535, (celN 160 (.bool false) [(0, (vm 0)), (1, .nils), (2, (vi 0)), (5, (vm 0)), (6, .nils), (7, (vi 0)), (10, (vm 0)), (11, .nils), (12, (vi 0)), (15, (vm 0)), (16, .nils), (17, (vi 0)), (20, (vm 0)), (21, .nils), (22, (vi 0)), (25, (vm 0)), (26, .nils), (27, (vi 0)), (30, (vm 0)), (31, .nils), (32, (vi 0)), (35, (vm 0)), (36, .nils), (37, (vi 0)), (40, (vm 0)), (41, .nils), (42, (vi 0)), (45, (vm 0)), (46, .nils), (47, (vi 0)), (50, (vm 0)), (51, .nils), (52, (vi 0)), (55, (vm 0)), (56, .nils), (57, (vi 0)), (60, (vm 0)), (61, .nils), (62, (vi 0)), (65, (vm 0)), (66, .nils), (67, (vi 0)), (70, (vm 0)), (71, .nils), (72, (vi 0)), (75, (vm 0)), (76, .nils), (77, (vi 0)), (80, (vm 0)), (81, .nils), (82, (vi 0)), (85, (vm 0)), (86, .nils), (87, (vi 0)), (90, (vm 0)), (91, .nils), (92, (vi 0)), (95, (vm 0)), (96, .nils), (97, (vi 0)), (100, (vm 0)), (101, .nils), (102, (vi 0)), (105, (vm 0)), (106, .nils), (107, (vi 0)), (110, (vm 0)), (111, .nils), (112, (vi 0)), (115, (vm 0)), (116, .nils), (117, (vi 0)), (120, (vm 0)), (121, .nils), (122, (vi 0)), (125, (vm 0)), (126, .nils), (127, (vi 0)), (130, (vm 0)), (131, .nils), (132, (vi 0)), (135, (vm 0)), (136, .nils), (137, (vi 0)), (140, (vm 0)), (141, .nils), (142, (vi 0)), (145, (vm 0)), (146, .nils), (147, (vi 0)), (150, (vm 0)), (151, .nils), (152, (vi 0)), (155, (vm 0)), (156, .nils), (157, (vi 0))])), (536, (.map [] 0)), (537, (.map [] 0)), (538, (c1 6 [(.ptr 528 0), (.ptr 532 0), (.slc 535 0 32 32 5 true), (.map 536), (.map 537), (vi 0)])), (539, (c1 6 [(.ptr 528 0), (.ptr 532 0), (.ptr 538 0), .nilp, .nils, (vu 0)]))] [] h133M
noncomputable def h134V : AV := (vi 0)
noncomputable def h134M : HL := mergeL [(526, (celN 2048 .nils [(0, (.slc 540 0 512 512 1 true)), (1, (.slc 541 0 512 512 1 true)), (2, (.slc 542 0 512 512 1 true)), (3, (.slc 543 0 512 512 1 true)), (4, (.slc 544 0 512 512 1 true))])), (527, (.map [] 5)), (528, (c1 12 [(vi 1048576), (.slc 526 0 2048 2048 1 true), .nils, (.map 527), (.slc 530 0 2673 2673 1 true), (vi 2673), (.slc 531 0 0 0 1 true), (vm 0), (vi 6), (.bool false), .nilp, .nils])), (540, (.bytes 512 x2h)), (541, (.bytes 512 x6h)), (542, (.bytes 512 x7h)), (543, (.bytes 512 0x200000000cc00000000000004197a7c0ffa)), (544, (.bytes 512 0x200000000cc0000000000000841b5d97234))] [] h134L
def h134O : List Nat := [739, 783, 827, 868, 909]
noncomputable def h134S := oracleK 127 h134A 540 h134L h134V 545 h134M h133S
noncomputable def h135A : AV := (vl [(.slc 1287 0 512 512 1 true), (vu 1049)])
noncomputable def x12h : Nat := (spliceN x2h 0 6 0)
noncomputable def h135L : HL := [(1287, (.bytes 512 x12h))]
noncomputable def h135V : AV := (vt [(.slc 1404 0 512 512 1 true), (vi 0)])
noncomputable def h135M : HL := mergeL [(1404, (.bytes 512 x2h))] [] h135L
def h135O : List Nat := [1419]
noncomputable def h135S := oracleK 242 h135A 1404 h135L h135V 1405 h135M sumsC
noncomputable def h136A : AV := (vl [(.ptr 1236 0), (vi 0), (.slc 1404 0 512 512 1 true)])
noncomputable def h136L : HL := [(1212, (.bytes 512 x2h)), (1213, (.bytes 512 x6h)), (1214, (.bytes 512 x7h)), (1215, (.bytes 512 0x200000000cc00000000000004197a7c0ffa)), (1216, (.bytes 512 0x200000000cc0000000000000841b5d97234)), (1234, (celN 2048 .nils [(0, (.slc 1212 0 512 512 1 true)), (1, (.slc 1213 0 512 512 1 true)), (2, (.slc 1214 0 512 512 1 true)), (3, (.slc 1215 0 512 512 1 true)), (4, (.slc 1216 0 512 512 1 true))])), (1235, (.map [] 0)), (1236, (c1 12 [(vi 1048576), (.slc 1234 0 2048 2048 1 true), .nils, (.map 1235), (.slc 1238 0 2673 2673 1 true), (vi 2673), (.slc 1239 0 0 0 1 true), (vm 0), (vi 0), (.bool false), .nilp, .nils])), (1238, (.bytes 2673 x5h)), (1239, (.bytes 0 0)), (1404, (.bytes 512 x2h))]
noncomputable def h136V : AV := (vi 0)
noncomputable def h136M : HL := mergeL [(1235, (.map [⟨(vi 0), (.slc 1405 0 512 512 1 true), 0⟩] 1)), (1236, (c1 12 [(vi 1048576), (.slc 1234 0 2048 2048 1 true), (.slc 1406 0 1 1 2 false), (.map 1235), (.slc 1238 0 2673 2673 1 true), (vi 2673), (.slc 1239 0 0 0 1 true), (vm 0), (vi 1), (.bool false), .nilp, .nils])), (1405, (.bytes 512 x2h)), (1406, (c1 2 [(vi 0), (.slc 1405 0 512 512 1 true)]))] [] h136L
def h136O : List Nat := [1405, 1408]
noncomputable def h136S := oracleK 243 h136A 1405 h136L h136V 1407 h136M h135S
noncomputable def h137A : AV := (vl [(.ptr 1236 0), (vi 1), (.slc 1419 0 512 512 1 true)])
noncomputable def h137L : HL := mergeL [(1419, (.bytes 512 x6h))] [1404] h136M
noncomputable def h137V : AV := (vi 0)
noncomputable def h137M : HL := mergeL [(1235, (.map [⟨(vi 0), (.slc 1405 0 512 512 1 true), 0⟩, ⟨(vi 1), (.slc 1447 0 512 512 1 true), 1⟩] 2)), (1236, (c1 12 [(vi 1048576), (.slc 1234 0 2048 2048 1 true), (.slc 1448 0 2 2 2 false), (.map 1235), (.slc 1238 0 2673 2673 1 true), (vi 2673), (.slc 1239 0 0 0 1 true), (vm 0), (vi 2), (.bool false), .nilp, .nils])), (1447, (.bytes 512 x6h)), (1448, (c1 4 [(vi 0), (.slc 1405 0 512 512 1 true), (vi 1), (.slc 1447 0 512 512 1 true)]))] [1406] h137L
def h137O : List Nat := [1447, 1450]
noncomputable def h137S := oracleK 243 h137A 1447 h137L h137V 1449 h137M h136S
noncomputable def h138A : AV := (vl [(.ptr 1236 0), (vi 2), (.slc 1461 0 512 512 1 true)])
noncomputable def h138L : HL := mergeL [(1461, (.bytes 512 x7h))] [1419] h137M
noncomputable def h138V : AV := (vi 0)
noncomputable def h138M : HL := mergeL [(1235, (.map [⟨(vi 0), (.slc 1405 0 512 512 1 true), 0⟩, ⟨(vi 1), (.slc 1447 0 512 512 1 true), 1⟩, ⟨(vi 2), (.slc 1489 0 512 512 1 true), 2⟩] 3)), (1236, (c1 12 [(vi 1048576), (.slc 1234 0 2048 2048 1 true), (.slc 1490 0 3 3 2 false), (.map 1235), (.slc 1238 0 2673 2673 1 true), (vi 2673), (.slc 1239 0 0 0 1 true), (vm 0), (vi 3), (.bool false), .nilp, .nils])), (1489, (.bytes 512 x7h)), (1490, (c1 6 [(vi 0), (.slc 1405 0 512 512 1 true), (vi 1), (.slc 1447 0 512 512 1 true), (vi 2), (.slc 1489 0 512 512 1 true)]))] [1448] h138L
def h138O : List Nat := [1489, 1492]
noncomputable def h138S := oracleK 243 h138A 1489 h138L h138V 1491 h138M h137S
noncomputable def h139A : AV := (vl [(.ptr 1236 0), (vi 3), (.slc 1500 0 512 512 1 true)])
noncomputable def h139L : HL := mergeL [(1500, (.bytes 512 0x200000000cc00000000000004197a7c0ffa))] [1461] h138M
noncomputable def h139V : AV := (vi 0)
noncomputable def h139M : HL := mergeL [(1235, (.map [⟨(vi 0), (.slc 1405 0 512 512 1 true), 0⟩, ⟨(vi 1), (.slc 1447 0 512 512 1 true), 1⟩, ⟨(vi 2), (.slc 1489 0 512 512 1 true), 2⟩, ⟨(vi 3), (.slc 1528 0 512 512 1 true), 3⟩] 4)), (1236, (c1 12 [(vi 1048576), (.slc 1234 0 2048 2048 1 true), (.slc 1529 0 4 4 2 false), (.map 1235), (.slc 1238 0 2673 2673 1 true), (vi 2673), (.slc 1239 0 0 0 1 true), (vm 0), (vi 4), (.bool false), .nilp, .nils])), (1528, (.bytes 512 0x200000000cc00000000000004197a7c0ffa)), (1529, (c1 8 [(vi 0), (.slc 1405 0 512 512 1 true), (vi 1), (.slc 1447 0 512 512 1 true), (vi 2), (.slc 1489 0 512 512 1 true), (vi 3), (.slc 1528 0 512 512 1 true)]))] [1490] h139L
def h139O : List Nat := [1528, 1531]
noncomputable def h139S := oracleK 243 h139A 1528 h139L h139V 1530 h139M h138S
noncomputable def h140A : AV := (vl [(.ptr 1236 0), (vi 4), (.slc 1539 0 512 512 1 true)])
noncomputable def h140L : HL := mergeL [(1539, (.bytes 512 0x200000000cc0000000000000841b5d97234))] [1500] h139M
noncomputable def h140V : AV := (vi 0)
noncomputable def h140M : HL := mergeL [(1235, (.map [⟨(vi 0), (.slc 1405 0 512 512 1 true), 0⟩, ⟨(vi 1), (.slc 1447 0 512 512 1 true), 1⟩, ⟨(vi 2), (.slc 1489 0 512 512 1 true), 2⟩, ⟨(vi 3), (.slc 1528 0 512 512 1 true), 3⟩, ⟨(vi 4), (.slc 1567 0 512 512 1 true), 4⟩] 5)), (1236, (c1 12 [(vi 1048576), (.slc 1234 0 2048 2048 1 true), (.slc 1568 0 5 5 2 false), (.map 1235), (.slc 1238 0 2673 2673 1 true), (vi 2673), (.slc 1239 0 0 0 1 true), (vm 0), (vi 5), (.bool false), .nilp, .nils])), (1567, (.bytes 512 0x200000000cc0000000000000841b5d97234)), (1568, (c1 10 [(vi 0), (.slc 1405 0 512 512 1 true), (vi 1), (.slc 1447 0 512 512 1 true), (vi 2), (.slc 1489 0 512 512 1 true), (vi 3), (.slc 1528 0 512 512 1 true), (vi 4), (.slc 1567 0 512 512 1 true)]))] [1529] h140L
def h140O : List Nat := [1567, 1570]
noncomputable def h140S := oracleK 243 h140A 1567 h140L h140V 1569 h140M h139S
noncomputable def h141A : AV := (vl [(.ptr 1236 0)])
noncomputable def h141L : HL := mergeL [] [1539] h140M
noncomputable def h141V : AV := (vi 0)
noncomputable def h141M : HL := [(1212, (.bytes 512 x2h)), (1213, (.bytes 512 x6h)), (1214, (.bytes 512 x7h)), (1215, (.bytes 512 0x200000000cc00000000000004197a7c0ffa)), (1216, (.bytes 512 0x200000000cc0000000000000841b5d97234)), (1234, (celN 2048 .nils [(0, (.slc 1405 0 512 512 1 true)), (1, (.slc 1447 0 512 512 1 true)), (2, (.slc 1489 0 512 512 1 true)), (3, (.slc 1528 0 512 512 1 true)), (4, (.slc 1567 0 512 512 1 true))])), (1235, (.map [] 5)), (1236, (c1 12 [(vi 1048576), (.slc 1234 0 2048 2048 1 true), .nils, (.map 1235), (.slc 1238 0 2673 2673 1 true), (vi 2673), (.slc 1239 0 0 0 1 true), (vm 0), (vi 6), (.bool false), .nilp, .nils])), (1238, (.bytes 2673 x5h)), (1239, (.bytes 0 0)), (1405, (.bytes 512 x2h)), (1447, (.bytes 512 x6h)), (1489, (.bytes 512 x7h)), (1528, (.bytes 512 0x200000000cc00000000000004197a7c0ffa)), (1567, (.bytes 512 0x200000000cc0000000000000841b5d97234)), (1568, (c1 10 [(vi 0), (.slc 1405 0 512 512 1 true), (vi 1), (.slc 1447 0 512 512 1 true), (vi 2), (.slc 1489 0 512 512 1 true), (vi 3), (.slc 1528 0 512 512 1 true), (vi 4), (.slc 1567 0 512 512 1 true)]))]
def h141O : List Nat := []
noncomputable def h141S := oracleK 198 h141A 1569 h141L h141V 1569 h141M h140S
def h052N : List Nat := [532, 533, 534, 535, 536, 537, 538, 539, 540, 541, 542, 543, 544, 545, 546, 547, 548, 549, 550, 551, 552, 666, 667]
def h132N : List Nat := [1405, 1447, 1489, 1528, 1567]
end Go.Ev
