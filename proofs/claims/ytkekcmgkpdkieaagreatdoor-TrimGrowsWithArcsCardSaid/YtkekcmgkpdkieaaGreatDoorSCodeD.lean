import Derived.Test.YtkekcmgkpdkieaaGreatDoorSCode0
set_option linter.unusedVariables false
set_option linter.unusedSimpArgs false
namespace Fi.S
open Go Fi Go.Proofs
set_option maxHeartbeats 8000000
set_option maxRecDepth 1000000
def f1024:ai:=by
 have:aF 1024 Tryz.f12=some ?F:=by conv=>lhs;reduce;try dsimp
 exact ?F
def f1026:ai:=by
 have:aF 1026 Tryz.f29=some ?F:=by conv=>lhs;reduce;try dsimp
 exact ?F
def f1028:ai:=by
 have:aF 1028 Tryz.f8=some ?F:=by conv=>lhs;reduce;try dsimp
 exact ?F
def f1062:ai:=by
 have:aF 1062 Tryz.f31=some ?F:=by conv=>lhs;reduce;try dsimp
 exact ?F
def f1063:ai:=by
 have:aF 1063 Tryz.f32=some ?F:=by conv=>lhs;reduce;try dsimp
 exact ?F
def f1064:ai:=by
 have:aF 1064 Tryz.f33=some ?F:=by conv=>lhs;reduce;try dsimp
 exact ?F
def f1065:ai:=by
 have:aF 1065 Tryz.f74=some ?F:=by conv=>lhs;reduce;try dsimp
 exact ?F
def f1066:ai:=by
 have:aF 1066 Tryz.f75=some ?F:=by conv=>lhs;reduce;try dsimp
 exact ?F
def f1067:ai:=by
 have:aF 1067 Tryz.f76=some ?F:=by conv=>lhs;reduce;try dsimp
 exact ?F
def f1068:ai:=by
 have:aF 1068 Tryz.f77=some ?F:=by conv=>lhs;reduce;try dsimp
 exact ?F
def f1070:ai:=by
 have:aF 1070 Tryz.f43=some ?F:=by conv=>lhs;reduce;try dsimp
 exact ?F
def f1075:ai:=by
 have:aF 1075 Tryz.f28=some ?F:=by conv=>lhs;reduce;try dsimp
 exact ?F
def f1098:ai:=by
 have:aF 1098 Tryz.f78=some ?F:=by conv=>lhs;reduce;try dsimp
 exact ?F
def f1101:ai:=by
 have:aF 1101 Tryz.f82=some ?F:=by conv=>lhs;reduce;try dsimp
 exact ?F
def f1102:ai:=by
 have:aF 1102 Tryz.f83=some ?F:=by conv=>lhs;reduce;try dsimp
 exact ?F
def f1103:ai:=by
 have:aF 1103 Tryz.f84=some ?F:=by conv=>lhs;reduce;try dsimp
 exact ?F
def f1104:ai:=by
 have:aF 1104 Tryz.f85=some ?F:=by conv=>lhs;reduce;try dsimp
 exact ?F
def f1105:ai:=by
 have:aF 1105 Tryz.f121=some ?F:=by conv=>lhs;reduce;try dsimp
 exact ?F
def f1106:ai:=by
 have:aF 1106 Tryz.f122=some ?F:=by conv=>lhs;reduce;try dsimp
 exact ?F
def f1107:ai:=by
 have:aF 1107 Tryz.f123=some ?F:=by conv=>lhs;reduce;try dsimp
 exact ?F
def f1108:ai:=by
 have:aF 1108 Tryz.f124=some ?F:=by conv=>lhs;reduce;try dsimp
 exact ?F
def f1109:ai:=by
 have:aF 1109 Tryz.f91=some ?F:=by conv=>lhs;reduce;try dsimp
 exact ?F
def f1126:ai:=by
 have:aF 1126 Tryz.f147=some ?F:=by conv=>lhs;reduce;try dsimp
 exact ?F
def f1138:ai:=by
 have:aF 1138 Tryz.f130=some ?F:=by conv=>lhs;reduce;try dsimp
 exact ?F
def f1139:ai:=by
 have:aF 1139 Tryz.f155=some ?F:=by conv=>lhs;reduce;try dsimp
 exact ?F
def f1208:ai:=by
 have:aF 1208 Tryz.f161=some ?F:=by conv=>lhs;reduce;try dsimp
 exact ?F
def f1209:ai:=by
 have:aF 1209 Tryz.f162=some ?F:=by conv=>lhs;reduce;try dsimp
 exact ?F
def f1254:ai:=by
 have:aF 1254 Tryz.f229=some ?F:=by conv=>lhs;reduce;try dsimp
 exact ?F
def f1298:ai:=by
 have:aF 1298 Tryz.f274=some ?F:=by conv=>lhs;reduce;try dsimp
 exact ?F
def f1503:ai:=by
 have:aF 1503 Tryz.f6=some ?F:=by conv=>lhs;reduce;try dsimp
 exact ?F
def f1504:ai:=by
 have:aF 1504 Tryz.f20=some ?F:=by conv=>lhs;reduce;try dsimp
 exact ?F
def f1505:ai:=by
 have:aF 1505 Tryz.f23=some ?F:=by conv=>lhs;reduce;try dsimp
 exact ?F
def f1506:ai:=by
 have:aF 1506 Tryz.f21=some ?F:=by conv=>lhs;reduce;try dsimp
 exact ?F
def f1508:ai:=by
 have:aF 1508 Tryz.f58=some ?F:=by conv=>lhs;reduce;try dsimp
 exact ?F
def f1509:ai:=by
 have:aF 1509 Tryz.f104=some ?F:=by conv=>lhs;reduce;try dsimp
 exact ?F
def f1510:ai:=by
 have:aF 1510 Tryz.f105=some ?F:=by conv=>lhs;reduce;try dsimp
 exact ?F
def f1511:ai:=by
 have:aF 1511 Tryz.f61=some ?F:=by conv=>lhs;reduce;try dsimp
 exact ?F
def f1512:ai:=by
 have:aF 1512 Tryz.f111=some ?F:=by conv=>lhs;reduce;try dsimp
 exact ?F
def f1513:ai:=by
 have:aF 1513 Tryz.f148=some ?F:=by conv=>lhs;reduce;try dsimp
 exact ?F
def f3507:ai:=by
 have:aF 3507 Tryz.f57=some ?F:=by conv=>lhs;reduce;try dsimp
 exact ?F
def Xk:TF:=[(1024,f1024),(1026,f1026),(1028,f1028),(1062,f1062),(1063,f1063),(1064,f1064),(1065,f1065),(1066,f1066),(1067,f1067),(1068,f1068),(1070,f1070),(1075,f1075),(1098,f1098),(1101,f1101),(1102,f1102),(1103,f1103),(1104,f1104),(1105,f1105),(1106,f1106),(1107,f1107),(1108,f1108),(1109,f1109),(1126,f1126),(1138,f1138),(1139,f1139),(1208,f1208),(1209,f1209),(1254,f1254),(1298,f1298),(1503,f1503),(1504,f1504),(1505,f1505),(1506,f1506),(1508,f1508),(1509,f1509),(1510,f1510),(1511,f1511),(1512,f1512),(1513,f1513),(3507,f3507)]
theorem ajx:yh Xk:=by
 unfold Xk
 repeat refine Ig (by kernel_rfl) ?_
 exact Ih
end Fi.S
