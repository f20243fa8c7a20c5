import Derived.Test.YtgngjdakilfmoaaGreatDoorSCode0
namespace Fi.S
open Go Fi Go.Proofs
set_option maxHeartbeats 8000000
set_option maxRecDepth 1000000
def f1070:=aG 1070 Tryz.f139 _
def f1075:=aG 1075 Tryz.f62 _
def f1088:=aG 1088 Tryz.f60 _
def f1089:=aG 1089 Tryz.f61 _
def f1090:=aG 1090 Tryz.f15 _
def f1098:=aG 1098 Tryz.f136 _
def f1101:=aG 1101 Tryz.f138 _
def f1102:=aG 1102 Tryz.f140 _
def f1103:=aG 1103 Tryz.f141 _
def f1104:=aG 1104 Tryz.f32 _
def f1105:=aG 1105 Tryz.f33 _
def f1106:=aG 1106 Tryz.f207 _
def f1107:=aG 1107 Tryz.f208 _
def f1108:=aG 1108 Tryz.f209 _
def f1109:=aG 1109 Tryz.f211 _
def f1126:=aG 1126 Tryz.f12 _
def f1138:=aG 1138 Tryz.f210 _
def f1139:=aG 1139 Tryz.f256 _
def f1208:=aG 1208 Tryz.f257 _
def f1209:=aG 1209 Tryz.f258 _
def f1254:=aG 1254 Tryz.f303 _
def f1298:=aG 1298 Tryz.f332 _
def f1508:=aG 1508 Tryz.f46 _
def f1532:=aG 1532 Tryz.f25 _
def f1702:=aG 1702 Tryz.f6 _
def f1703:=aG 1703 Tryz.f3 _
def f1706:=aG 1706 Tryz.f13 _
def f1707:=aG 1707 Tryz.f8 _
def f1710:=aG 1710 Tryz.f29 _
def f1711:=aG 1711 Tryz.f65 _
def f1712:=aG 1712 Tryz.f30 _
def f1713:=aG 1713 Tryz.f45 _
def f1714:=aG 1714 Tryz.f23 _
def f1715:=aG 1715 Tryz.f16 _
def f1716:=aG 1716 Tryz.f31 _
def f1717:=aG 1717 Tryz.f9 _
def f1718:=aG 1718 Tryz.f34 _
def f1730:=aG 1730 Tryz.f21 _
def YT:TF:=[(1070,f1070),(1075,f1075),(1088,f1088),(1089,f1089),(1090,f1090),(1098,f1098),(1101,f1101),(1102,f1102),(1103,f1103),(1104,f1104),(1105,f1105),(1106,f1106),(1107,f1107),(1108,f1108),(1109,f1109),(1126,f1126),(1138,f1138),(1139,f1139),(1208,f1208),(1209,f1209),(1254,f1254),(1298,f1298),(1508,f1508),(1532,f1532),(1702,f1702),(1703,f1703),(1706,f1706),(1707,f1707),(1710,f1710),(1711,f1711),(1712,f1712),(1713,f1713),(1714,f1714),(1715,f1715),(1716,f1716),(1717,f1717),(1718,f1718),(1730,f1730)]
theorem alA:yI YT:=by
 unfold YT
 repeat refine Jb (by kernel_rfl) ?_
 exact Jc
end Fi.S
