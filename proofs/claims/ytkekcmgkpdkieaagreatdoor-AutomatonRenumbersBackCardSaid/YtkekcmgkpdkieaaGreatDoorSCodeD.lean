import Derived.Test.YtkekcmgkpdkieaaGreatDoorSCode0
namespace Fi.S
open Go Fi Go.Proofs
set_option maxHeartbeats 8000000
set_option maxRecDepth 1000000
def f1022:ai:=by
 have:aF 1022 Tryz.f18=some ?F:=by conv=>lhs;reduce;try dsimp
 exact ?F
def f1024:ai:=by
 have:aF 1024 Tryz.f12=some ?F:=by conv=>lhs;reduce;try dsimp
 exact ?F
def f1026:ai:=by
 have:aF 1026 Tryz.f29=some ?F:=by conv=>lhs;reduce;try dsimp
 exact ?F
def f1027:ai:=by
 have:aF 1027 Tryz.f16=some ?F:=by conv=>lhs;reduce;try dsimp
 exact ?F
def f1028:ai:=by
 have:aF 1028 Tryz.f8=some ?F:=by conv=>lhs;reduce;try dsimp
 exact ?F
def f1029:ai:=by
 have:aF 1029 Tryz.f11=some ?F:=by conv=>lhs;reduce;try dsimp
 exact ?F
def f1031:ai:=by
 have:aF 1031 Tryz.f10=some ?F:=by conv=>lhs;reduce;try dsimp
 exact ?F
def f1040:ai:=by
 have:aF 1040 Tryz.f35=some ?F:=by conv=>lhs;reduce;try dsimp
 exact ?F
def f1041:ai:=by
 have:aF 1041 Tryz.f36=some ?F:=by conv=>lhs;reduce;try dsimp
 exact ?F
def f1054:ai:=by
 have:aF 1054 Tryz.f37=some ?F:=by conv=>lhs;reduce;try dsimp
 exact ?F
def f1060:ai:=by
 have:aF 1060 Tryz.f53=some ?F:=by conv=>lhs;reduce;try dsimp
 exact ?F
def f1062:ai:=by
 have:aF 1062 Tryz.f31=some ?F:=by conv=>lhs;reduce;try dsimp
 exact ?F
def f1063:ai:=by
 have:aF 1063 Tryz.f32=some ?F:=by conv=>lhs;reduce;try dsimp
 exact ?F
def f1064:ai:=by
 have:aF 1064 Tryz.f33=some ?F:=by conv=>lhs;reduce;try dsimp
 exact ?F
def f1065:ai:=by
 have:aF 1065 Tryz.f74=some ?F:=by conv=>lhs;reduce;try dsimp
 exact ?F
def f1066:ai:=by
 have:aF 1066 Tryz.f75=some ?F:=by conv=>lhs;reduce;try dsimp
 exact ?F
def f1067:ai:=by
 have:aF 1067 Tryz.f76=some ?F:=by conv=>lhs;reduce;try dsimp
 exact ?F
def f1068:ai:=by
 have:aF 1068 Tryz.f77=some ?F:=by conv=>lhs;reduce;try dsimp
 exact ?F
def f1069:ai:=by
 have:aF 1069 Tryz.f42=some ?F:=by conv=>lhs;reduce;try dsimp
 exact ?F
def f1070:ai:=by
 have:aF 1070 Tryz.f43=some ?F:=by conv=>lhs;reduce;try dsimp
 exact ?F
def f1074:ai:=by
 have:aF 1074 Tryz.f47=some ?F:=by conv=>lhs;reduce;try dsimp
 exact ?F
def f1075:ai:=by
 have:aF 1075 Tryz.f28=some ?F:=by conv=>lhs;reduce;try dsimp
 exact ?F
def f1076:ai:=by
 have:aF 1076 Tryz.f30=some ?F:=by conv=>lhs;reduce;try dsimp
 exact ?F
def f1098:ai:=by
 have:aF 1098 Tryz.f78=some ?F:=by conv=>lhs;reduce;try dsimp
 exact ?F
def f1101:ai:=by
 have:aF 1101 Tryz.f82=some ?F:=by conv=>lhs;reduce;try dsimp
 exact ?F
def f1102:ai:=by
 have:aF 1102 Tryz.f83=some ?F:=by conv=>lhs;reduce;try dsimp
 exact ?F
def f1103:ai:=by
 have:aF 1103 Tryz.f84=some ?F:=by conv=>lhs;reduce;try dsimp
 exact ?F
def f1104:ai:=by
 have:aF 1104 Tryz.f85=some ?F:=by conv=>lhs;reduce;try dsimp
 exact ?F
def f1105:ai:=by
 have:aF 1105 Tryz.f121=some ?F:=by conv=>lhs;reduce;try dsimp
 exact ?F
def f1106:ai:=by
 have:aF 1106 Tryz.f122=some ?F:=by conv=>lhs;reduce;try dsimp
 exact ?F
def f1107:ai:=by
 have:aF 1107 Tryz.f123=some ?F:=by conv=>lhs;reduce;try dsimp
 exact ?F
def f1108:ai:=by
 have:aF 1108 Tryz.f124=some ?F:=by conv=>lhs;reduce;try dsimp
 exact ?F
def f1109:ai:=by
 have:aF 1109 Tryz.f91=some ?F:=by conv=>lhs;reduce;try dsimp
 exact ?F
def f1126:ai:=by
 have:aF 1126 Tryz.f147=some ?F:=by conv=>lhs;reduce;try dsimp
 exact ?F
def f1138:ai:=by
 have:aF 1138 Tryz.f130=some ?F:=by conv=>lhs;reduce;try dsimp
 exact ?F
def f1139:ai:=by
 have:aF 1139 Tryz.f155=some ?F:=by conv=>lhs;reduce;try dsimp
 exact ?F
def f1208:ai:=by
 have:aF 1208 Tryz.f161=some ?F:=by conv=>lhs;reduce;try dsimp
 exact ?F
def f1209:ai:=by
 have:aF 1209 Tryz.f162=some ?F:=by conv=>lhs;reduce;try dsimp
 exact ?F
def f1254:ai:=by
 have:aF 1254 Tryz.f229=some ?F:=by conv=>lhs;reduce;try dsimp
 exact ?F
def f1298:ai:=by
 have:aF 1298 Tryz.f274=some ?F:=by conv=>lhs;reduce;try dsimp
 exact ?F
def f3012:ai:=by
 have:aF 3012 Tryz.f39=some ?F:=by conv=>lhs;reduce;try dsimp
 exact ?F
def f3024:ai:=by
 have:aF 3024 Tryz.f12=some ?F:=by conv=>lhs;reduce;try dsimp
 exact ?F
def f3064:ai:=by
 have:aF 3064 Tryz.f33=some ?F:=by conv=>lhs;reduce;try dsimp
 exact ?F
def Xk:TF:=[(1022,f1022),(1024,f1024),(1026,f1026),(1027,f1027),(1028,f1028),(1029,f1029),(1031,f1031),(1040,f1040),(1041,f1041),(1054,f1054),(1060,f1060),(1062,f1062),(1063,f1063),(1064,f1064),(1065,f1065),(1066,f1066),(1067,f1067),(1068,f1068),(1069,f1069),(1070,f1070),(1074,f1074),(1075,f1075),(1076,f1076),(1098,f1098),(1101,f1101),(1102,f1102),(1103,f1103),(1104,f1104),(1105,f1105),(1106,f1106),(1107,f1107),(1108,f1108),(1109,f1109),(1126,f1126),(1138,f1138),(1139,f1139),(1208,f1208),(1209,f1209),(1254,f1254),(1298,f1298),(3012,f3012),(3024,f3024),(3064,f3064)]
theorem ajx:yh Xk:=by
 unfold Xk
 repeat refine Ig (by kernel_rfl) ?_
 exact Ih
end Fi.S
