import Derived.Test.YtgngjdakilfmoaaGreatDoorSCode0
namespace Fi.S
open Go Fi Go.Proofs
set_option maxHeartbeats 8000000
set_option maxRecDepth 1000000
def f163:=aG 163 Tryz.f198 _
def f167:=aG 167 Tryz.f120 _
def f168:=aG 168 Tryz.f122 _
def f169:=aG 169 Tryz.f119 _
def f170:=aG 170 Tryz.f116 _
def f171:=aG 171 Tryz.f117 _
def f172:=aG 172 Tryz.f118 _
def f173:=aG 173 Tryz.f205 _
def f174:=aG 174 Tryz.f206 _
def f180:=aG 180 Tryz.f213 _
def f181:=aG 181 Tryz.f214 _
def f182:=aG 182 Tryz.f215 _
def f183:=aG 183 Tryz.f216 _
def f184:=aG 184 Tryz.f217 _
def f185:=aG 185 Tryz.f218 _
def f186:=aG 186 Tryz.f219 _
def f187:=aG 187 Tryz.f220 _
def f188:=aG 188 Tryz.f221 _
def f189:=aG 189 Tryz.f222 _
def f190:=aG 190 Tryz.f223 _
def f191:=aG 191 Tryz.f224 _
def f195:=aG 195 Tryz.f228 _
def f203:=aG 203 Tryz.f239 _
def f204:=aG 204 Tryz.f240 _
def f205:=aG 205 Tryz.f241 _
def f207:=aG 207 Tryz.f243 _
def f208:=aG 208 Tryz.f244 _
def f225:=aG 225 Tryz.f260 _
def f226:=aG 226 Tryz.f261 _
def f227:=aG 227 Tryz.f262 _
def f228:=aG 228 Tryz.f263 _
def f229:=aG 229 Tryz.f264 _
def f230:=aG 230 Tryz.f265 _
def f231:=aG 231 Tryz.f266 _
def f232:=aG 232 Tryz.f267 _
def f233:=aG 233 Tryz.f268 _
def f254:=aG 254 Tryz.f292 _
def f255:=aG 255 Tryz.f212 _
def f257:=aG 257 Tryz.f294 _
def f258:=aG 258 Tryz.f295 _
def f266:=aG 266 Tryz.f304 _
def f267:=aG 267 Tryz.f305 _
def f268:=aG 268 Tryz.f306 _
def f282:=aG 282 Tryz.f259 _
def f287:=aG 287 Tryz.f333 _
def f303:=aG 303 Tryz.f349 _
def f1024:=aG 1024 Tryz.f64 _
def f1026:=aG 1026 Tryz.f98 _
def f1028:=aG 1028 Tryz.f28 _
def f1043:=aG 1043 Tryz.f59 _
def f1044:=aG 1044 Tryz.f27 _
def f1047:=aG 1047 Tryz.f94 _
def f1062:=aG 1062 Tryz.f99 _
def f1063:=aG 1063 Tryz.f100 _
def f1064:=aG 1064 Tryz.f101 _
def f1065:=aG 1065 Tryz.f132 _
def f1066:=aG 1066 Tryz.f133 _
def f1067:=aG 1067 Tryz.f134 _
def f1068:=aG 1068 Tryz.f135 _
def YS:TF:=[(163,f163),(167,f167),(168,f168),(169,f169),(170,f170),(171,f171),(172,f172),(173,f173),(174,f174),(180,f180),(181,f181),(182,f182),(183,f183),(184,f184),(185,f185),(186,f186),(187,f187),(188,f188),(189,f189),(190,f190),(191,f191),(195,f195),(203,f203),(204,f204),(205,f205),(207,f207),(208,f208),(225,f225),(226,f226),(227,f227),(228,f228),(229,f229),(230,f230),(231,f231),(232,f232),(233,f233),(254,f254),(255,f255),(257,f257),(258,f258),(266,f266),(267,f267),(268,f268),(282,f282),(287,f287),(303,f303),(1024,f1024),(1026,f1026),(1028,f1028),(1043,f1043),(1044,f1044),(1047,f1047),(1062,f1062),(1063,f1063),(1064,f1064),(1065,f1065),(1066,f1066),(1067,f1067),(1068,f1068)]
theorem alz:yI YS:=by
 unfold YS
 repeat refine Jb (by kernel_rfl) ?_
 exact Jc
end Fi.S
