import Derived.Test.YtkekcmgkpdkieaaGreatDoorSCode0
namespace Fi.S
open Go Fi Go.Proofs
set_option maxHeartbeats 8000000
set_option maxRecDepth 1000000
def f173:=aG 173 Tryz.f167 _
def f174:=aG 174 Tryz.f168 _
def f180:=aG 180 Tryz.f231 _
def f181:=aG 181 Tryz.f232 _
def f182:=aG 182 Tryz.f233 _
def f183:=aG 183 Tryz.f234 _
def f184:=aG 184 Tryz.f235 _
def f185:=aG 185 Tryz.f236 _
def f186:=aG 186 Tryz.f237 _
def f187:=aG 187 Tryz.f238 _
def f188:=aG 188 Tryz.f239 _
def f189:=aG 189 Tryz.f240 _
def f190:=aG 190 Tryz.f241 _
def f191:=aG 191 Tryz.f242 _
def f195:=aG 195 Tryz.f246 _
def f203:=aG 203 Tryz.f257 _
def f204:=aG 204 Tryz.f258 _
def f205:=aG 205 Tryz.f259 _
def f207:=aG 207 Tryz.f261 _
def f208:=aG 208 Tryz.f262 _
def f225:=aG 225 Tryz.f275 _
def f226:=aG 226 Tryz.f276 _
def f227:=aG 227 Tryz.f277 _
def f228:=aG 228 Tryz.f278 _
def f229:=aG 229 Tryz.f279 _
def f230:=aG 230 Tryz.f280 _
def f231:=aG 231 Tryz.f281 _
def f232:=aG 232 Tryz.f282 _
def f233:=aG 233 Tryz.f283 _
def f254:=aG 254 Tryz.f307 _
def f255:=aG 255 Tryz.f92 _
def f257:=aG 257 Tryz.f309 _
def f258:=aG 258 Tryz.f310 _
def f266:=aG 266 Tryz.f318 _
def f267:=aG 267 Tryz.f319 _
def f268:=aG 268 Tryz.f320 _
def f282:=aG 282 Tryz.f138 _
def f287:=aG 287 Tryz.f346 _
def f303:=aG 303 Tryz.f362 _
def f1014:=aG 1014 Tryz.f25 _
def f1020:=aG 1020 Tryz.f14 _
def f1023:=aG 1023 Tryz.f19 _
def f1024:=aG 1024 Tryz.f12 _
def f1026:=aG 1026 Tryz.f29 _
def f1027:=aG 1027 Tryz.f16 _
def f1040:=aG 1040 Tryz.f35 _
def f1041:=aG 1041 Tryz.f36 _
def f1043:=aG 1043 Tryz.f108 _
def f1044:=aG 1044 Tryz.f60 _
def f1046:=aG 1046 Tryz.f64 _
def f1047:=aG 1047 Tryz.f65 _
def f1054:=aG 1054 Tryz.f37 _
def f1061:=aG 1061 Tryz.f55 _
def f1062:=aG 1062 Tryz.f31 _
def f1063:=aG 1063 Tryz.f32 _
def f1064:=aG 1064 Tryz.f33 _
def VH:TF:=[(173,f173),(174,f174),(180,f180),(181,f181),(182,f182),(183,f183),(184,f184),(185,f185),(186,f186),(187,f187),(188,f188),(189,f189),(190,f190),(191,f191),(195,f195),(203,f203),(204,f204),(205,f205),(207,f207),(208,f208),(225,f225),(226,f226),(227,f227),(228,f228),(229,f229),(230,f230),(231,f231),(232,f232),(233,f233),(254,f254),(255,f255),(257,f257),(258,f258),(266,f266),(267,f267),(268,f268),(282,f282),(287,f287),(303,f303),(1014,f1014),(1020,f1020),(1023,f1023),(1024,f1024),(1026,f1026),(1027,f1027),(1040,f1040),(1041,f1041),(1043,f1043),(1044,f1044),(1046,f1046),(1047,f1047),(1054,f1054),(1061,f1061),(1062,f1062),(1063,f1063),(1064,f1064)]
theorem ah2:wY VH:=by
 unfold VH
 repeat refine Gj (by kernel_rfl) ?_
 exact Gl
end Fi.S
