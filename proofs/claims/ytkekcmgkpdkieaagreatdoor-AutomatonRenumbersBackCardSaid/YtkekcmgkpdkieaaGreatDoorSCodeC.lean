import Derived.Test.YtkekcmgkpdkieaaGreatDoorSCode0
namespace Fi.S
open Go Fi Go.Proofs
set_option maxHeartbeats 8000000
set_option maxRecDepth 1000000
def f156:ai:=by
 have:aF 156 Tryz.f218=some ?F:=by conv=>lhs;reduce;try dsimp
 exact ?F
def f157:ai:=by
 have:aF 157 Tryz.f219=some ?F:=by conv=>lhs;reduce;try dsimp
 exact ?F
def f158:ai:=by
 have:aF 158 Tryz.f220=some ?F:=by conv=>lhs;reduce;try dsimp
 exact ?F
def f160:ai:=by
 have:aF 160 Tryz.f222=some ?F:=by conv=>lhs;reduce;try dsimp
 exact ?F
def f163:ai:=by
 have:aF 163 Tryz.f225=some ?F:=by conv=>lhs;reduce;try dsimp
 exact ?F
def f167:ai:=by
 have:aF 167 Tryz.f152=some ?F:=by conv=>lhs;reduce;try dsimp
 exact ?F
def f168:ai:=by
 have:aF 168 Tryz.f153=some ?F:=by conv=>lhs;reduce;try dsimp
 exact ?F
def f169:ai:=by
 have:aF 169 Tryz.f166=some ?F:=by conv=>lhs;reduce;try dsimp
 exact ?F
def f170:ai:=by
 have:aF 170 Tryz.f164=some ?F:=by conv=>lhs;reduce;try dsimp
 exact ?F
def f171:ai:=by
 have:aF 171 Tryz.f165=some ?F:=by conv=>lhs;reduce;try dsimp
 exact ?F
def f172:ai:=by
 have:aF 172 Tryz.f163=some ?F:=by conv=>lhs;reduce;try dsimp
 exact ?F
def f173:ai:=by
 have:aF 173 Tryz.f167=some ?F:=by conv=>lhs;reduce;try dsimp
 exact ?F
def f174:ai:=by
 have:aF 174 Tryz.f168=some ?F:=by conv=>lhs;reduce;try dsimp
 exact ?F
def f180:ai:=by
 have:aF 180 Tryz.f231=some ?F:=by conv=>lhs;reduce;try dsimp
 exact ?F
def f181:ai:=by
 have:aF 181 Tryz.f232=some ?F:=by conv=>lhs;reduce;try dsimp
 exact ?F
def f182:ai:=by
 have:aF 182 Tryz.f233=some ?F:=by conv=>lhs;reduce;try dsimp
 exact ?F
def f183:ai:=by
 have:aF 183 Tryz.f234=some ?F:=by conv=>lhs;reduce;try dsimp
 exact ?F
def f184:ai:=by
 have:aF 184 Tryz.f235=some ?F:=by conv=>lhs;reduce;try dsimp
 exact ?F
def f185:ai:=by
 have:aF 185 Tryz.f236=some ?F:=by conv=>lhs;reduce;try dsimp
 exact ?F
def f186:ai:=by
 have:aF 186 Tryz.f237=some ?F:=by conv=>lhs;reduce;try dsimp
 exact ?F
def f187:ai:=by
 have:aF 187 Tryz.f238=some ?F:=by conv=>lhs;reduce;try dsimp
 exact ?F
def f188:ai:=by
 have:aF 188 Tryz.f239=some ?F:=by conv=>lhs;reduce;try dsimp
 exact ?F
def f189:ai:=by
 have:aF 189 Tryz.f240=some ?F:=by conv=>lhs;reduce;try dsimp
 exact ?F
def f190:ai:=by
 have:aF 190 Tryz.f241=some ?F:=by conv=>lhs;reduce;try dsimp
 exact ?F
def f191:ai:=by
 have:aF 191 Tryz.f242=some ?F:=by conv=>lhs;reduce;try dsimp
 exact ?F
def f195:ai:=by
 have:aF 195 Tryz.f246=some ?F:=by conv=>lhs;reduce;try dsimp
 exact ?F
def f203:ai:=by
 have:aF 203 Tryz.f257=some ?F:=by conv=>lhs;reduce;try dsimp
 exact ?F
def f204:ai:=by
 have:aF 204 Tryz.f258=some ?F:=by conv=>lhs;reduce;try dsimp
 exact ?F
def f205:ai:=by
 have:aF 205 Tryz.f259=some ?F:=by conv=>lhs;reduce;try dsimp
 exact ?F
def f207:ai:=by
 have:aF 207 Tryz.f261=some ?F:=by conv=>lhs;reduce;try dsimp
 exact ?F
def f208:ai:=by
 have:aF 208 Tryz.f262=some ?F:=by conv=>lhs;reduce;try dsimp
 exact ?F
def f225:ai:=by
 have:aF 225 Tryz.f275=some ?F:=by conv=>lhs;reduce;try dsimp
 exact ?F
def f226:ai:=by
 have:aF 226 Tryz.f276=some ?F:=by conv=>lhs;reduce;try dsimp
 exact ?F
def f227:ai:=by
 have:aF 227 Tryz.f277=some ?F:=by conv=>lhs;reduce;try dsimp
 exact ?F
def f228:ai:=by
 have:aF 228 Tryz.f278=some ?F:=by conv=>lhs;reduce;try dsimp
 exact ?F
def f229:ai:=by
 have:aF 229 Tryz.f279=some ?F:=by conv=>lhs;reduce;try dsimp
 exact ?F
def f230:ai:=by
 have:aF 230 Tryz.f280=some ?F:=by conv=>lhs;reduce;try dsimp
 exact ?F
def f231:ai:=by
 have:aF 231 Tryz.f281=some ?F:=by conv=>lhs;reduce;try dsimp
 exact ?F
def f232:ai:=by
 have:aF 232 Tryz.f282=some ?F:=by conv=>lhs;reduce;try dsimp
 exact ?F
def f233:ai:=by
 have:aF 233 Tryz.f283=some ?F:=by conv=>lhs;reduce;try dsimp
 exact ?F
def f254:ai:=by
 have:aF 254 Tryz.f307=some ?F:=by conv=>lhs;reduce;try dsimp
 exact ?F
def f255:ai:=by
 have:aF 255 Tryz.f92=some ?F:=by conv=>lhs;reduce;try dsimp
 exact ?F
def f257:ai:=by
 have:aF 257 Tryz.f309=some ?F:=by conv=>lhs;reduce;try dsimp
 exact ?F
def f258:ai:=by
 have:aF 258 Tryz.f310=some ?F:=by conv=>lhs;reduce;try dsimp
 exact ?F
def f266:ai:=by
 have:aF 266 Tryz.f318=some ?F:=by conv=>lhs;reduce;try dsimp
 exact ?F
def f267:ai:=by
 have:aF 267 Tryz.f319=some ?F:=by conv=>lhs;reduce;try dsimp
 exact ?F
def f268:ai:=by
 have:aF 268 Tryz.f320=some ?F:=by conv=>lhs;reduce;try dsimp
 exact ?F
def f282:ai:=by
 have:aF 282 Tryz.f138=some ?F:=by conv=>lhs;reduce;try dsimp
 exact ?F
def f287:ai:=by
 have:aF 287 Tryz.f346=some ?F:=by conv=>lhs;reduce;try dsimp
 exact ?F
def f303:ai:=by
 have:aF 303 Tryz.f362=some ?F:=by conv=>lhs;reduce;try dsimp
 exact ?F
def f1008:ai:=by
 have:aF 1008 Tryz.f3=some ?F:=by conv=>lhs;reduce;try dsimp
 exact ?F
def f1011:ai:=by
 have:aF 1011 Tryz.f15=some ?F:=by conv=>lhs;reduce;try dsimp
 exact ?F
def f1018:ai:=by
 have:aF 1018 Tryz.f13=some ?F:=by conv=>lhs;reduce;try dsimp
 exact ?F
def f1020:ai:=by
 have:aF 1020 Tryz.f14=some ?F:=by conv=>lhs;reduce;try dsimp
 exact ?F
def Xj:TF:=[(156,f156),(157,f157),(158,f158),(160,f160),(163,f163),(167,f167),(168,f168),(169,f169),(170,f170),(171,f171),(172,f172),(173,f173),(174,f174),(180,f180),(181,f181),(182,f182),(183,f183),(184,f184),(185,f185),(186,f186),(187,f187),(188,f188),(189,f189),(190,f190),(191,f191),(195,f195),(203,f203),(204,f204),(205,f205),(207,f207),(208,f208),(225,f225),(226,f226),(227,f227),(228,f228),(229,f229),(230,f230),(231,f231),(232,f232),(233,f233),(254,f254),(255,f255),(257,f257),(258,f258),(266,f266),(267,f267),(268,f268),(282,f282),(287,f287),(303,f303),(1008,f1008),(1011,f1011),(1018,f1018),(1020,f1020)]
theorem ajw:yh Xj:=by
 unfold Xj
 repeat refine Ig (by kernel_rfl) ?_
 exact Ih
end Fi.S
