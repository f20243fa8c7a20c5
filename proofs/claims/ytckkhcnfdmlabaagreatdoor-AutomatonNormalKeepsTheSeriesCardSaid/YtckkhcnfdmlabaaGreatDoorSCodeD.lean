import Derived.Test.YtckkhcnfdmlabaaGreatDoorSCode0
set_option linter.unusedVariables false
set_option linter.unusedSimpArgs false
namespace Fi.S
open Go Fi Go.Proofs
set_option maxHeartbeats 8000000
set_option maxRecDepth 1000000
def f1018:ai:=by
 have:aD 1018 Tryz.f18=some ?F:=by conv=>lhs;reduce;try dsimp
 exact ?F
def f1020:ai:=by
 have:aD 1020 Tryz.f20=some ?F:=by conv=>lhs;reduce;try dsimp
 exact ?F
def f1022:ai:=by
 have:aD 1022 Tryz.f22=some ?F:=by conv=>lhs;reduce;try dsimp
 exact ?F
def f1024:ai:=by
 have:aD 1024 Tryz.f24=some ?F:=by conv=>lhs;reduce;try dsimp
 exact ?F
def f1026:ai:=by
 have:aD 1026 Tryz.f26=some ?F:=by conv=>lhs;reduce;try dsimp
 exact ?F
def f1027:ai:=by
 have:aD 1027 Tryz.f27=some ?F:=by conv=>lhs;reduce;try dsimp
 exact ?F
def f1028:ai:=by
 have:aD 1028 Tryz.f28=some ?F:=by conv=>lhs;reduce;try dsimp
 exact ?F
def f1040:ai:=by
 have:aD 1040 Tryz.f40=some ?F:=by conv=>lhs;reduce;try dsimp
 exact ?F
def f1041:ai:=by
 have:aD 1041 Tryz.f41=some ?F:=by conv=>lhs;reduce;try dsimp
 exact ?F
def f1054:ai:=by
 have:aD 1054 Tryz.f54=some ?F:=by conv=>lhs;reduce;try dsimp
 exact ?F
def f1060:ai:=by
 have:aD 1060 Tryz.f60=some ?F:=by conv=>lhs;reduce;try dsimp
 exact ?F
def f1062:ai:=by
 have:aD 1062 Tryz.f62=some ?F:=by conv=>lhs;reduce;try dsimp
 exact ?F
def f1063:ai:=by
 have:aD 1063 Tryz.f63=some ?F:=by conv=>lhs;reduce;try dsimp
 exact ?F
def f1064:ai:=by
 have:aD 1064 Tryz.f64=some ?F:=by conv=>lhs;reduce;try dsimp
 exact ?F
def f1065:ai:=by
 have:aD 1065 Tryz.f65=some ?F:=by conv=>lhs;reduce;try dsimp
 exact ?F
def f1066:ai:=by
 have:aD 1066 Tryz.f66=some ?F:=by conv=>lhs;reduce;try dsimp
 exact ?F
def f1067:ai:=by
 have:aD 1067 Tryz.f67=some ?F:=by conv=>lhs;reduce;try dsimp
 exact ?F
def f1068:ai:=by
 have:aD 1068 Tryz.f68=some ?F:=by conv=>lhs;reduce;try dsimp
 exact ?F
def f1069:ai:=by
 have:aD 1069 Tryz.f69=some ?F:=by conv=>lhs;reduce;try dsimp
 exact ?F
def f1070:ai:=by
 have:aD 1070 Tryz.f70=some ?F:=by conv=>lhs;reduce;try dsimp
 exact ?F
def f1074:ai:=by
 have:aD 1074 Tryz.f74=some ?F:=by conv=>lhs;reduce;try dsimp
 exact ?F
def f1075:ai:=by
 have:aD 1075 Tryz.f75=some ?F:=by conv=>lhs;reduce;try dsimp
 exact ?F
def f1098:ai:=by
 have:aD 1098 Tryz.f98=some ?F:=by conv=>lhs;reduce;try dsimp
 exact ?F
def f1101:ai:=by
 have:aD 1101 Tryz.f101=some ?F:=by conv=>lhs;reduce;try dsimp
 exact ?F
def f1102:ai:=by
 have:aD 1102 Tryz.f102=some ?F:=by conv=>lhs;reduce;try dsimp
 exact ?F
def f1103:ai:=by
 have:aD 1103 Tryz.f103=some ?F:=by conv=>lhs;reduce;try dsimp
 exact ?F
def f1104:ai:=by
 have:aD 1104 Tryz.f104=some ?F:=by conv=>lhs;reduce;try dsimp
 exact ?F
def f1105:ai:=by
 have:aD 1105 Tryz.f105=some ?F:=by conv=>lhs;reduce;try dsimp
 exact ?F
def f1106:ai:=by
 have:aD 1106 Tryz.f106=some ?F:=by conv=>lhs;reduce;try dsimp
 exact ?F
def f1107:ai:=by
 have:aD 1107 Tryz.f107=some ?F:=by conv=>lhs;reduce;try dsimp
 exact ?F
def f1108:ai:=by
 have:aD 1108 Tryz.f108=some ?F:=by conv=>lhs;reduce;try dsimp
 exact ?F
def f1109:ai:=by
 have:aD 1109 Tryz.f109=some ?F:=by conv=>lhs;reduce;try dsimp
 exact ?F
def f1126:ai:=by
 have:aD 1126 Tryz.f126=some ?F:=by conv=>lhs;reduce;try dsimp
 exact ?F
def f1138:ai:=by
 have:aD 1138 Tryz.f138=some ?F:=by conv=>lhs;reduce;try dsimp
 exact ?F
def f1139:ai:=by
 have:aD 1139 Tryz.f139=some ?F:=by conv=>lhs;reduce;try dsimp
 exact ?F
def f1208:ai:=by
 have:aD 1208 Tryz.f208=some ?F:=by conv=>lhs;reduce;try dsimp
 exact ?F
def f1209:ai:=by
 have:aD 1209 Tryz.f209=some ?F:=by conv=>lhs;reduce;try dsimp
 exact ?F
def f1254:ai:=by
 have:aD 1254 Tryz.f254=some ?F:=by conv=>lhs;reduce;try dsimp
 exact ?F
def f1298:ai:=by
 have:aD 1298 Tryz.f298=some ?F:=by conv=>lhs;reduce;try dsimp
 exact ?F
def f3012:ai:=by
 have:aD 3012 Tryz.f12=some ?F:=by conv=>lhs;reduce;try dsimp
 exact ?F
def f3024:ai:=by
 have:aD 3024 Tryz.f24=some ?F:=by conv=>lhs;reduce;try dsimp
 exact ?F
def f3064:ai:=by
 have:aD 3064 Tryz.f64=some ?F:=by conv=>lhs;reduce;try dsimp
 exact ?F
def VH:TF:=[(1018,f1018),(1020,f1020),(1022,f1022),(1024,f1024),(1026,f1026),(1027,f1027),(1028,f1028),(1040,f1040),(1041,f1041),(1054,f1054),(1060,f1060),(1062,f1062),(1063,f1063),(1064,f1064),(1065,f1065),(1066,f1066),(1067,f1067),(1068,f1068),(1069,f1069),(1070,f1070),(1074,f1074),(1075,f1075),(1098,f1098),(1101,f1101),(1102,f1102),(1103,f1103),(1104,f1104),(1105,f1105),(1106,f1106),(1107,f1107),(1108,f1108),(1109,f1109),(1126,f1126),(1138,f1138),(1139,f1139),(1208,f1208),(1209,f1209),(1254,f1254),(1298,f1298),(3012,f3012),(3024,f3024),(3064,f3064)]
theorem ah0:xk VH:=by
 unfold VH
 repeat refine GL (by kernel_rfl) ?_
 exact GM
end Fi.S
