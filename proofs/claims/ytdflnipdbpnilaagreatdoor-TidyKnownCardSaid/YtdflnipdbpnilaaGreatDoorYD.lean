/- The heaps between the pieces of a run (by a program of our own). -/
import Derived.Test.YtdflnipdbpnilaaGreatDoorYC
set_option linter.unusedVariables false
namespace Go.Ev
open Go Go.Proofs
noncomputable def cmA : AV := (vl [(.ptr 23 0), (vu 2)])
noncomputable def cmL : HL := [(8, (.cells 1024 (ctAll 1024 .nils))), (9, (.map [] 0)), (10, y702), (11, y703), (12, y704), (13, y376), (14, y377), (15, (c1 6 [(.ptr 10 0), (.ptr 11 0), (.slc 12 0 32 32 5 true), (.map 13), (.map 14), (vi 0)])), (16, (c1 6 [(.ptr 10 0), (.ptr 11 0), (.ptr 15 0), .nilp, .nils, (vu 0)])), (17, (.map [⟨(vu 2), (.map 131), 0⟩] 1)), (18, (.map [⟨(vu 2), (va [(vi 40), (vi 4520)]), 0⟩] 1)), (19, (.map [] 0)), (20, (.map [] 0)), (21, (.map [] 0)), (22, (.map [] 0)), (23, y21), (24, (.bytes 512 x1)), (25, (.bytes 512 0x200000000cc00000000000004197a7c0ffa)), (26, (.map [⟨(vu 2), (.ptr 117 0), 1⟩] 2)), (27, (c1 4 [(.ptr 16 0), (.ifc 164 (va [(.ptr 23 0)])), (.map 26), (vu 3)])), (33, (.bytes 512 x8)), (34, (.bytes 512 0x200000000cc0000000000000a7219f4024c)), (116, y378), (117, y705), (131, (.map [⟨(.str 1 97), (va []), 0⟩] 1)), (213, (.bytes 512 x27)), (242, (.bytes 512 x34)), (271, (.bytes 512 x41)), (300, (.bytes 512 x48)), (329, (.bytes 512 x55)), (358, (.bytes 512 x62)), (387, (.bytes 512 x69)), (416, (.bytes 512 x76)), (445, (.bytes 512 x83)), (474, (.bytes 512 x90)), (503, (.bytes 512 x97)), (532, (.bytes 512 x104)), (561, (.bytes 512 x111)), (590, (.bytes 512 x118)), (619, (.bytes 512 x125)), (648, (.bytes 512 x132)), (677, (.bytes 512 x139)), (683, y382), (684, (c1 5 [(vi 8), (vu 0), .nils, .nils, (.slc 687 0 3 3 6 false)])), (685, (.bytes 60 0)), (686, (c1 6 [(.str 1 98), (vi 6), (vu 0), (.slc 685 0 60 60 1 true), .nils, .nils])), (687, y383), (691, (.bytes 512 x142)), (1396, (.bytes 512 x248)), (1398, (.bytes 512 x250)), (1471, (.bytes 26804 x257)), (1472, y706), (1473, (.bytes 26804 x257)), (1474, (.bytes 512 x258)), (1475, y707), (1476, (.bytes 0 0)), (1477, (c1 0 [])), (1478, y708), (1479, (.bytes 0 0)), (1480, (c1 0 [])), (1481, (c1 0 [])), (1482, (.bytes 0 0)), (1483, (c1 0 [])), (1484, (c1 0 [])), (1485, (.bytes 60 0)), (1486, (c1 0 [])), (1487, (c1 0 [])), (1488, y709)]
noncomputable def cmV : AV := (vi 0)
noncomputable def x259 : Nat := (spliceN x257 26804 13 0x1d0a6020351ac4b3500000008)
noncomputable def y710 : Ob := (c1 12 [(vi 1048576), (.slc 8 0 1024 1024 1 true), .nils, (.map 9), (.slc 1489 0 26820 26820 1 false), (vi 26820), .nils, (vm 0), (vi 88), (.bool false), .nilp, .nils])
noncomputable def y711 : Ob := (c1 6 [(.ptr 10 0), (vu 1), (.slc 1491 0 26820 26820 1 false), (.slc 1490 0 85 85 1 false), (vi 26820), (vu 0)])
noncomputable def y712 : Ob := (celG 85 (vi 0) y706 [(84, (vi 26804))])
noncomputable def cmM : HL := mergeL [(10, y710), (11, y711), (17, (.map [] 1)), (18, (.map [] 1)), (26, (.map [] 2)), (1489, (.bytes 26820 x259)), (1490, y712), (1491, (.bytes 26820 x259))] [116, 117, 131, 1471, 1472, 1473, 1475] cmL
def cmO : List Nat := [1541, 1543, 1544]
noncomputable def cmS := oracleL 12 cmA 1489 cmL cmV 1492 cmM e39S
noncomputable def tbA : AV := (vl [(.ptr 23 0), (vi 1000)])
noncomputable def tbL : HL := mergeL [] [] cmM
noncomputable def tbV : AV := (vt [(vi 0), (vi 0)])
noncomputable def tbM : HL := mergeL [] [] tbL
def tbO : List Nat := []
noncomputable def tbS := oracleL 6 tbA 1492 tbL tbV 1492 tbM cmS
noncomputable def tsA : AV := (vl [(.ptr 23 0)])
noncomputable def tsL : HL := mergeL [] [] tbM
noncomputable def tsV : AV := (vt [(.bool false), (vi 0)])
noncomputable def tsM : HL := mergeL [] [] tsL
def tsO : List Nat := []
noncomputable def tsS := oracleL 13 tsA 1492 tsL tsV 1492 tsM tbS
end Go.Ev
