import Derived.Test.YtkekcmgkpdkieaaGreatDoorSCode0
namespace Fi.S
open Go Fi Go.Proofs
set_option maxHeartbeats 8000000
set_option maxRecDepth 1000000
def f168:=aH 168 Tryz.f153 _
def f169:=aH 169 Tryz.f166 _
def f170:=aH 170 Tryz.f164 _
def f171:=aH 171 Tryz.f165 _
def f172:=aH 172 Tryz.f163 _
def f173:=aH 173 Tryz.f167 _
def f174:=aH 174 Tryz.f168 _
def f180:=aH 180 Tryz.f231 _
def f181:=aH 181 Tryz.f232 _
def f182:=aH 182 Tryz.f233 _
def f183:=aH 183 Tryz.f234 _
def f184:=aH 184 Tryz.f235 _
def f185:=aH 185 Tryz.f236 _
def f186:=aH 186 Tryz.f237 _
def f187:=aH 187 Tryz.f238 _
def f188:=aH 188 Tryz.f239 _
def f189:=aH 189 Tryz.f240 _
def f190:=aH 190 Tryz.f241 _
def f191:=aH 191 Tryz.f242 _
def f195:=aH 195 Tryz.f246 _
def f203:=aH 203 Tryz.f257 _
def f204:=aH 204 Tryz.f258 _
def f205:=aH 205 Tryz.f259 _
def f207:=aH 207 Tryz.f261 _
def f208:=aH 208 Tryz.f262 _
def f225:=aH 225 Tryz.f275 _
def f226:=aH 226 Tryz.f276 _
def f227:=aH 227 Tryz.f277 _
def f228:=aH 228 Tryz.f278 _
def f229:=aH 229 Tryz.f279 _
def f230:=aH 230 Tryz.f280 _
def f231:=aH 231 Tryz.f281 _
def f232:=aH 232 Tryz.f282 _
def f233:=aH 233 Tryz.f283 _
def f254:=aH 254 Tryz.f307 _
def f255:=aH 255 Tryz.f92 _
def f257:=aH 257 Tryz.f309 _
def f258:=aH 258 Tryz.f310 _
def f266:=aH 266 Tryz.f318 _
def f267:=aH 267 Tryz.f319 _
def f268:=aH 268 Tryz.f320 _
def f282:=aH 282 Tryz.f138 _
def f287:=aH 287 Tryz.f346 _
def f303:=aH 303 Tryz.f362 _
def f1014:=aH 1014 Tryz.f25 _
def f1018:=aH 1018 Tryz.f13 _
def f1020:=aH 1020 Tryz.f14 _
def f1024:=aH 1024 Tryz.f12 _
def f1026:=aH 1026 Tryz.f29 _
def f1028:=aH 1028 Tryz.f8 _
def f1040:=aH 1040 Tryz.f35 _
def f1041:=aH 1041 Tryz.f36 _
def f1043:=aH 1043 Tryz.f108 _
def f1044:=aH 1044 Tryz.f60 _
def f1046:=aH 1046 Tryz.f64 _
def f1047:=aH 1047 Tryz.f65 _
def Y3:TF:=[(168,f168),(169,f169),(170,f170),(171,f171),(172,f172),(173,f173),(174,f174),(180,f180),(181,f181),(182,f182),(183,f183),(184,f184),(185,f185),(186,f186),(187,f187),(188,f188),(189,f189),(190,f190),(191,f191),(195,f195),(203,f203),(204,f204),(205,f205),(207,f207),(208,f208),(225,f225),(226,f226),(227,f227),(228,f228),(229,f229),(230,f230),(231,f231),(232,f232),(233,f233),(254,f254),(255,f255),(257,f257),(258,f258),(266,f266),(267,f267),(268,f268),(282,f282),(287,f287),(303,f303),(1014,f1014),(1018,f1018),(1020,f1020),(1024,f1024),(1026,f1026),(1028,f1028),(1040,f1040),(1041,f1041),(1043,f1043),(1044,f1044),(1046,f1046),(1047,f1047)]
theorem al4:ze Y3:=by
 unfold Y3
 repeat refine Jf (by kernel_rfl) ?_
 exact Jg
end Fi.S
