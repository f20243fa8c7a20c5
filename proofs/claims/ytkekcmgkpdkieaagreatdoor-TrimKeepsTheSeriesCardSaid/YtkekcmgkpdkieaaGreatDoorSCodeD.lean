import Derived.Test.YtkekcmgkpdkieaaGreatDoorSCode0
namespace Fi.S
open Go Fi Go.Proofs
set_option maxHeartbeats 8000000
set_option maxRecDepth 1000000
def f1054:=aH 1054 Tryz.f37 _
def f1062:=aH 1062 Tryz.f31 _
def f1063:=aH 1063 Tryz.f32 _
def f1064:=aH 1064 Tryz.f33 _
def f1065:=aH 1065 Tryz.f74 _
def f1066:=aH 1066 Tryz.f75 _
def f1067:=aH 1067 Tryz.f76 _
def f1068:=aH 1068 Tryz.f77 _
def f1070:=aH 1070 Tryz.f43 _
def f1075:=aH 1075 Tryz.f28 _
def f1088:=aH 1088 Tryz.f109 _
def f1089:=aH 1089 Tryz.f110 _
def f1090:=aH 1090 Tryz.f112 _
def f1098:=aH 1098 Tryz.f78 _
def f1101:=aH 1101 Tryz.f82 _
def f1102:=aH 1102 Tryz.f83 _
def f1103:=aH 1103 Tryz.f84 _
def f1104:=aH 1104 Tryz.f85 _
def f1105:=aH 1105 Tryz.f121 _
def f1106:=aH 1106 Tryz.f122 _
def f1107:=aH 1107 Tryz.f123 _
def f1108:=aH 1108 Tryz.f124 _
def f1109:=aH 1109 Tryz.f91 _
def f1126:=aH 1126 Tryz.f147 _
def f1138:=aH 1138 Tryz.f130 _
def f1139:=aH 1139 Tryz.f155 _
def f1208:=aH 1208 Tryz.f161 _
def f1209:=aH 1209 Tryz.f162 _
def f1254:=aH 1254 Tryz.f229 _
def f1298:=aH 1298 Tryz.f274 _
def f1502:=aH 1502 Tryz.f5 _
def f1504:=aH 1504 Tryz.f20 _
def f1505:=aH 1505 Tryz.f23 _
def f1506:=aH 1506 Tryz.f21 _
def f1508:=aH 1508 Tryz.f58 _
def f1509:=aH 1509 Tryz.f104 _
def f1510:=aH 1510 Tryz.f105 _
def f1511:=aH 1511 Tryz.f61 _
def f1512:=aH 1512 Tryz.f111 _
def f1513:=aH 1513 Tryz.f148 _
def f1530:=aH 1530 Tryz.f26 _
def f1531:=aH 1531 Tryz.f66 _
def f1532:=aH 1532 Tryz.f67 _
def f1533:=aH 1533 Tryz.f113 _
def f1534:=aH 1534 Tryz.f114 _
def f1535:=aH 1535 Tryz.f149 _
def f1536:=aH 1536 Tryz.f150 _
def f3507:=aH 3507 Tryz.f57 _
def f3537:=aH 3537 Tryz.f151 _
def Y4:TF:=[(1054,f1054),(1062,f1062),(1063,f1063),(1064,f1064),(1065,f1065),(1066,f1066),(1067,f1067),(1068,f1068),(1070,f1070),(1075,f1075),(1088,f1088),(1089,f1089),(1090,f1090),(1098,f1098),(1101,f1101),(1102,f1102),(1103,f1103),(1104,f1104),(1105,f1105),(1106,f1106),(1107,f1107),(1108,f1108),(1109,f1109),(1126,f1126),(1138,f1138),(1139,f1139),(1208,f1208),(1209,f1209),(1254,f1254),(1298,f1298),(1502,f1502),(1504,f1504),(1505,f1505),(1506,f1506),(1508,f1508),(1509,f1509),(1510,f1510),(1511,f1511),(1512,f1512),(1513,f1513),(1530,f1530),(1531,f1531),(1532,f1532),(1533,f1533),(1534,f1534),(1535,f1535),(1536,f1536),(3507,f3507),(3537,f3537)]
theorem al5:ze Y4:=by
 unfold Y4
 repeat refine Jf (by kernel_rfl) ?_
 exact Jg
end Fi.S
