import Derived.Test.YthojoinggmjklaaGreatDoorSCode0
set_option linter.unusedVariables false
set_option linter.unusedSimpArgs false
namespace Fi.S
open Go Fi Go.Proofs
set_option maxHeartbeats 8000000
set_option maxRecDepth 1000000
def f1029:ai:=by
 have:aC 1029 Tryz.f6=some ?F:=by conv=>lhs;reduce;try dsimp
 exact ?F
def f1030:ai:=by
 have:aC 1030 Tryz.f7=some ?F:=by conv=>lhs;reduce;try dsimp
 exact ?F
def f1040:ai:=by
 have:aC 1040 Tryz.f41=some ?F:=by conv=>lhs;reduce;try dsimp
 exact ?F
def f1041:ai:=by
 have:aC 1041 Tryz.f42=some ?F:=by conv=>lhs;reduce;try dsimp
 exact ?F
def f1043:ai:=by
 have:aC 1043 Tryz.f45=some ?F:=by conv=>lhs;reduce;try dsimp
 exact ?F
def f1044:ai:=by
 have:aC 1044 Tryz.f20=some ?F:=by conv=>lhs;reduce;try dsimp
 exact ?F
def f1046:ai:=by
 have:aC 1046 Tryz.f22=some ?F:=by conv=>lhs;reduce;try dsimp
 exact ?F
def f1047:ai:=by
 have:aC 1047 Tryz.f23=some ?F:=by conv=>lhs;reduce;try dsimp
 exact ?F
def f1054:ai:=by
 have:aC 1054 Tryz.f43=some ?F:=by conv=>lhs;reduce;try dsimp
 exact ?F
def f1061:ai:=by
 have:aC 1061 Tryz.f10=some ?F:=by conv=>lhs;reduce;try dsimp
 exact ?F
def f1062:ai:=by
 have:aC 1062 Tryz.f34=some ?F:=by conv=>lhs;reduce;try dsimp
 exact ?F
def f1063:ai:=by
 have:aC 1063 Tryz.f35=some ?F:=by conv=>lhs;reduce;try dsimp
 exact ?F
def f1064:ai:=by
 have:aC 1064 Tryz.f36=some ?F:=by conv=>lhs;reduce;try dsimp
 exact ?F
def f1065:ai:=by
 have:aC 1065 Tryz.f37=some ?F:=by conv=>lhs;reduce;try dsimp
 exact ?F
def f1066:ai:=by
 have:aC 1066 Tryz.f38=some ?F:=by conv=>lhs;reduce;try dsimp
 exact ?F
def f1067:ai:=by
 have:aC 1067 Tryz.f39=some ?F:=by conv=>lhs;reduce;try dsimp
 exact ?F
def f1068:ai:=by
 have:aC 1068 Tryz.f40=some ?F:=by conv=>lhs;reduce;try dsimp
 exact ?F
def f1070:ai:=by
 have:aC 1070 Tryz.f68=some ?F:=by conv=>lhs;reduce;try dsimp
 exact ?F
def f1076:ai:=by
 have:aC 1076 Tryz.f17=some ?F:=by conv=>lhs;reduce;try dsimp
 exact ?F
def f1077:ai:=by
 have:aC 1077 Tryz.f19=some ?F:=by conv=>lhs;reduce;try dsimp
 exact ?F
def f1088:ai:=by
 have:aC 1088 Tryz.f46=some ?F:=by conv=>lhs;reduce;try dsimp
 exact ?F
def f1089:ai:=by
 have:aC 1089 Tryz.f47=some ?F:=by conv=>lhs;reduce;try dsimp
 exact ?F
def f1090:ai:=by
 have:aC 1090 Tryz.f48=some ?F:=by conv=>lhs;reduce;try dsimp
 exact ?F
def f1098:ai:=by
 have:aC 1098 Tryz.f64=some ?F:=by conv=>lhs;reduce;try dsimp
 exact ?F
def f1101:ai:=by
 have:aC 1101 Tryz.f67=some ?F:=by conv=>lhs;reduce;try dsimp
 exact ?F
def f1102:ai:=by
 have:aC 1102 Tryz.f69=some ?F:=by conv=>lhs;reduce;try dsimp
 exact ?F
def f1103:ai:=by
 have:aC 1103 Tryz.f70=some ?F:=by conv=>lhs;reduce;try dsimp
 exact ?F
def f1104:ai:=by
 have:aC 1104 Tryz.f71=some ?F:=by conv=>lhs;reduce;try dsimp
 exact ?F
def f1105:ai:=by
 have:aC 1105 Tryz.f72=some ?F:=by conv=>lhs;reduce;try dsimp
 exact ?F
def f1106:ai:=by
 have:aC 1106 Tryz.f73=some ?F:=by conv=>lhs;reduce;try dsimp
 exact ?F
def f1107:ai:=by
 have:aC 1107 Tryz.f74=some ?F:=by conv=>lhs;reduce;try dsimp
 exact ?F
def f1108:ai:=by
 have:aC 1108 Tryz.f75=some ?F:=by conv=>lhs;reduce;try dsimp
 exact ?F
def f1109:ai:=by
 have:aC 1109 Tryz.f103=some ?F:=by conv=>lhs;reduce;try dsimp
 exact ?F
def f1126:ai:=by
 have:aC 1126 Tryz.f79=some ?F:=by conv=>lhs;reduce;try dsimp
 exact ?F
def f1138:ai:=by
 have:aC 1138 Tryz.f102=some ?F:=by conv=>lhs;reduce;try dsimp
 exact ?F
def f1139:ai:=by
 have:aC 1139 Tryz.f105=some ?F:=by conv=>lhs;reduce;try dsimp
 exact ?F
def f1208:ai:=by
 have:aC 1208 Tryz.f176=some ?F:=by conv=>lhs;reduce;try dsimp
 exact ?F
def f1209:ai:=by
 have:aC 1209 Tryz.f177=some ?F:=by conv=>lhs;reduce;try dsimp
 exact ?F
def f1254:ai:=by
 have:aC 1254 Tryz.f225=some ?F:=by conv=>lhs;reduce;try dsimp
 exact ?F
def f1298:ai:=by
 have:aC 1298 Tryz.f270=some ?F:=by conv=>lhs;reduce;try dsimp
 exact ?F
def f3012:ai:=by
 have:aC 3012 Tryz.f12=some ?F:=by conv=>lhs;reduce;try dsimp
 exact ?F
def f3024:ai:=by
 have:aC 3024 Tryz.f15=some ?F:=by conv=>lhs;reduce;try dsimp
 exact ?F
def f3064:ai:=by
 have:aC 3064 Tryz.f36=some ?F:=by conv=>lhs;reduce;try dsimp
 exact ?F
def SX:TF:=[(1029,f1029),(1030,f1030),(1040,f1040),(1041,f1041),(1043,f1043),(1044,f1044),(1046,f1046),(1047,f1047),(1054,f1054),(1061,f1061),(1062,f1062),(1063,f1063),(1064,f1064),(1065,f1065),(1066,f1066),(1067,f1067),(1068,f1068),(1070,f1070),(1076,f1076),(1077,f1077),(1088,f1088),(1089,f1089),(1090,f1090),(1098,f1098),(1101,f1101),(1102,f1102),(1103,f1103),(1104,f1104),(1105,f1105),(1106,f1106),(1107,f1107),(1108,f1108),(1109,f1109),(1126,f1126),(1138,f1138),(1139,f1139),(1208,f1208),(1209,f1209),(1254,f1254),(1298,f1298),(3012,f3012),(3024,f3024),(3064,f3064)]
theorem afg:vN SX:=by
 unfold SX
 repeat refine ET (by kernel_rfl) ?_
 exact EU
end Fi.S
