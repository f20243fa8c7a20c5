import Derived.Test.YtbbogkfadofneaaGreatDoorSCode0
namespace Fi.S
open Go Fi Go.Proofs
set_option maxHeartbeats 8000000
set_option maxRecDepth 1000000
def f182:=aD 182 Tryz.f230 _
def f183:=aD 183 Tryz.f231 _
def f184:=aD 184 Tryz.f232 _
def f185:=aD 185 Tryz.f233 _
def f186:=aD 186 Tryz.f234 _
def f187:=aD 187 Tryz.f235 _
def f188:=aD 188 Tryz.f236 _
def f189:=aD 189 Tryz.f237 _
def f190:=aD 190 Tryz.f238 _
def f191:=aD 191 Tryz.f239 _
def f195:=aD 195 Tryz.f243 _
def f203:=aD 203 Tryz.f254 _
def f204:=aD 204 Tryz.f255 _
def f205:=aD 205 Tryz.f256 _
def f207:=aD 207 Tryz.f258 _
def f208:=aD 208 Tryz.f259 _
def f225:=aD 225 Tryz.f272 _
def f226:=aD 226 Tryz.f273 _
def f227:=aD 227 Tryz.f274 _
def f228:=aD 228 Tryz.f275 _
def f229:=aD 229 Tryz.f276 _
def f230:=aD 230 Tryz.f277 _
def f231:=aD 231 Tryz.f278 _
def f232:=aD 232 Tryz.f279 _
def f233:=aD 233 Tryz.f280 _
def f254:=aD 254 Tryz.f304 _
def f255:=aD 255 Tryz.f120 _
def f257:=aD 257 Tryz.f306 _
def f258:=aD 258 Tryz.f307 _
def f266:=aD 266 Tryz.f315 _
def f267:=aD 267 Tryz.f316 _
def f268:=aD 268 Tryz.f317 _
def f282:=aD 282 Tryz.f157 _
def f287:=aD 287 Tryz.f343 _
def f303:=aD 303 Tryz.f359 _
def f1018:=aD 1018 Tryz.f7 _
def f1020:=aD 1020 Tryz.f75 _
def f1024:=aD 1024 Tryz.f19 _
def f1026:=aD 1026 Tryz.f36 _
def f1028:=aD 1028 Tryz.f18 _
def f1040:=aD 1040 Tryz.f122 _
def f1041:=aD 1041 Tryz.f123 _
def f1043:=aD 1043 Tryz.f78 _
def f1044:=aD 1044 Tryz.f41 _
def f1047:=aD 1047 Tryz.f33 _
def f1054:=aD 1054 Tryz.f124 _
def f1062:=aD 1062 Tryz.f37 _
def f1063:=aD 1063 Tryz.f38 _
def f1064:=aD 1064 Tryz.f39 _
def f1065:=aD 1065 Tryz.f62 _
def f1066:=aD 1066 Tryz.f63 _
def f1067:=aD 1067 Tryz.f64 _
def f1068:=aD 1068 Tryz.f65 _
def f1070:=aD 1070 Tryz.f71 _
def f1075:=aD 1075 Tryz.f34 _
def f1088:=aD 1088 Tryz.f79 _
def f1089:=aD 1089 Tryz.f80 _
def f1090:=aD 1090 Tryz.f56 _
def f1098:=aD 1098 Tryz.f66 _
def f1101:=aD 1101 Tryz.f70 _
def Xn:TF:=[(182,f182),(183,f183),(184,f184),(185,f185),(186,f186),(187,f187),(188,f188),(189,f189),(190,f190),(191,f191),(195,f195),(203,f203),(204,f204),(205,f205),(207,f207),(208,f208),(225,f225),(226,f226),(227,f227),(228,f228),(229,f229),(230,f230),(231,f231),(232,f232),(233,f233),(254,f254),(255,f255),(257,f257),(258,f258),(266,f266),(267,f267),(268,f268),(282,f282),(287,f287),(303,f303),(1018,f1018),(1020,f1020),(1024,f1024),(1026,f1026),(1028,f1028),(1040,f1040),(1041,f1041),(1043,f1043),(1044,f1044),(1047,f1047),(1054,f1054),(1062,f1062),(1063,f1063),(1064,f1064),(1065,f1065),(1066,f1066),(1067,f1067),(1068,f1068),(1070,f1070),(1075,f1075),(1088,f1088),(1089,f1089),(1090,f1090),(1098,f1098),(1101,f1101)]
theorem ajA:xR Xn:=by
 unfold Xn
 repeat refine HV (by kernel_rfl) ?_
 exact HY
end Fi.S
