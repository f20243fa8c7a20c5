import Derived.Test.YtkekcmgkpdkieaaGreatDoorSCode0
namespace Fi.S
open Go Fi Go.Proofs
set_option maxHeartbeats 8000000
set_option maxRecDepth 1000000
def f1065:=aG 1065 Tryz.f74 _
def f1066:=aG 1066 Tryz.f75 _
def f1067:=aG 1067 Tryz.f76 _
def f1068:=aG 1068 Tryz.f77 _
def f1069:=aG 1069 Tryz.f42 _
def f1070:=aG 1070 Tryz.f43 _
def f1074:=aG 1074 Tryz.f47 _
def f1088:=aG 1088 Tryz.f109 _
def f1089:=aG 1089 Tryz.f110 _
def f1090:=aG 1090 Tryz.f112 _
def f1098:=aG 1098 Tryz.f78 _
def f1101:=aG 1101 Tryz.f82 _
def f1102:=aG 1102 Tryz.f83 _
def f1103:=aG 1103 Tryz.f84 _
def f1104:=aG 1104 Tryz.f85 _
def f1105:=aG 1105 Tryz.f121 _
def f1106:=aG 1106 Tryz.f122 _
def f1107:=aG 1107 Tryz.f123 _
def f1108:=aG 1108 Tryz.f124 _
def f1109:=aG 1109 Tryz.f91 _
def f1126:=aG 1126 Tryz.f147 _
def f1138:=aG 1138 Tryz.f130 _
def f1139:=aG 1139 Tryz.f155 _
def f1208:=aG 1208 Tryz.f161 _
def f1209:=aG 1209 Tryz.f162 _
def f1254:=aG 1254 Tryz.f229 _
def f1298:=aG 1298 Tryz.f274 _
def f1501:=aG 1501 Tryz.f4 _
def f1504:=aG 1504 Tryz.f20 _
def f1505:=aG 1505 Tryz.f23 _
def f1506:=aG 1506 Tryz.f21 _
def f1508:=aG 1508 Tryz.f58 _
def f1509:=aG 1509 Tryz.f104 _
def f1510:=aG 1510 Tryz.f105 _
def f1511:=aG 1511 Tryz.f61 _
def f1512:=aG 1512 Tryz.f111 _
def f1513:=aG 1513 Tryz.f148 _
def f1520:=aG 1520 Tryz.f24 _
def f1521:=aG 1521 Tryz.f22 _
def f1522:=aG 1522 Tryz.f59 _
def f1523:=aG 1523 Tryz.f62 _
def f1524:=aG 1524 Tryz.f106 _
def f1525:=aG 1525 Tryz.f107 _
def f1526:=aG 1526 Tryz.f146 _
def f3507:=aG 3507 Tryz.f57 _
def VI:TF:=[(1065,f1065),(1066,f1066),(1067,f1067),(1068,f1068),(1069,f1069),(1070,f1070),(1074,f1074),(1088,f1088),(1089,f1089),(1090,f1090),(1098,f1098),(1101,f1101),(1102,f1102),(1103,f1103),(1104,f1104),(1105,f1105),(1106,f1106),(1107,f1107),(1108,f1108),(1109,f1109),(1126,f1126),(1138,f1138),(1139,f1139),(1208,f1208),(1209,f1209),(1254,f1254),(1298,f1298),(1501,f1501),(1504,f1504),(1505,f1505),(1506,f1506),(1508,f1508),(1509,f1509),(1510,f1510),(1511,f1511),(1512,f1512),(1513,f1513),(1520,f1520),(1521,f1521),(1522,f1522),(1523,f1523),(1524,f1524),(1525,f1525),(1526,f1526),(3507,f3507)]
theorem ah3:wY VI:=by
 unfold VI
 repeat refine Gj (by kernel_rfl) ?_
 exact Gl
end Fi.S
