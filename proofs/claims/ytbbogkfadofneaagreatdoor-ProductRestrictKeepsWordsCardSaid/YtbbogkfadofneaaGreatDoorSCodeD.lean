import Derived.Test.YtbbogkfadofneaaGreatDoorSCode0
namespace Fi.S
open Go Fi Go.Proofs
set_option maxHeartbeats 8000000
set_option maxRecDepth 1000000
def f1102:=aD 1102 Tryz.f72 _
def f1103:=aD 1103 Tryz.f73 _
def f1104:=aD 1104 Tryz.f74 _
def f1105:=aD 1105 Tryz.f108 _
def f1106:=aD 1106 Tryz.f109 _
def f1107:=aD 1107 Tryz.f111 _
def f1108:=aD 1108 Tryz.f112 _
def f1109:=aD 1109 Tryz.f119 _
def f1126:=aD 1126 Tryz.f126 _
def f1138:=aD 1138 Tryz.f118 _
def f1139:=aD 1139 Tryz.f149 _
def f1208:=aD 1208 Tryz.f155 _
def f1209:=aD 1209 Tryz.f156 _
def f1254:=aD 1254 Tryz.f225 _
def f1298:=aD 1298 Tryz.f271 _
def f1505:=aD 1505 Tryz.f49 _
def f1506:=aD 1506 Tryz.f95 _
def f1508:=aD 1508 Tryz.f98 _
def f1509:=aD 1509 Tryz.f142 _
def f1510:=aD 1510 Tryz.f143 _
def f1511:=aD 1511 Tryz.f96 _
def f1512:=aD 1512 Tryz.f99 _
def f1513:=aD 1513 Tryz.f144 _
def f1530:=aD 1530 Tryz.f9 _
def f1531:=aD 1531 Tryz.f20 _
def f1532:=aD 1532 Tryz.f21 _
def f1533:=aD 1533 Tryz.f40 _
def f1534:=aD 1534 Tryz.f42 _
def f1535:=aD 1535 Tryz.f76 _
def f1536:=aD 1536 Tryz.f77 _
def f1601:=aD 1601 Tryz.f3 _
def f1604:=aD 1604 Tryz.f11 _
def f1605:=aD 1605 Tryz.f8 _
def f1608:=aD 1608 Tryz.f26 _
def f1609:=aD 1609 Tryz.f50 _
def f1610:=aD 1610 Tryz.f51 _
def f1611:=aD 1611 Tryz.f100 _
def f1612:=aD 1612 Tryz.f145 _
def f1613:=aD 1613 Tryz.f6 _
def f1620:=aD 1620 Tryz.f48 _
def f1626:=aD 1626 Tryz.f93 _
def f1627:=aD 1627 Tryz.f94 _
def f1629:=aD 1629 Tryz.f47 _
def f3507:=aD 3507 Tryz.f97 _
def f3537:=aD 3537 Tryz.f81 _
def Xo:TF:=[(1102,f1102),(1103,f1103),(1104,f1104),(1105,f1105),(1106,f1106),(1107,f1107),(1108,f1108),(1109,f1109),(1126,f1126),(1138,f1138),(1139,f1139),(1208,f1208),(1209,f1209),(1254,f1254),(1298,f1298),(1505,f1505),(1506,f1506),(1508,f1508),(1509,f1509),(1510,f1510),(1511,f1511),(1512,f1512),(1513,f1513),(1530,f1530),(1531,f1531),(1532,f1532),(1533,f1533),(1534,f1534),(1535,f1535),(1536,f1536),(1601,f1601),(1604,f1604),(1605,f1605),(1608,f1608),(1609,f1609),(1610,f1610),(1611,f1611),(1612,f1612),(1613,f1613),(1620,f1620),(1626,f1626),(1627,f1627),(1629,f1629),(3507,f3507),(3537,f3537)]
theorem ajB:xR Xo:=by
 unfold Xo
 repeat refine HV (by kernel_rfl) ?_
 exact HY
end Fi.S
