import Derived.Test.YtckkhcnfdmlabaaGreatDoorSCode0
set_option linter.unusedVariables false
set_option linter.unusedSimpArgs false
namespace Fi.S
open Go Fi Go.Proofs
set_option maxHeartbeats 8000000
set_option maxRecDepth 1000000
def f172:ai:=by
 have:aD 172 Tryz.f144=some ?F:=by conv=>lhs;reduce;try dsimp
 exact ?F
def f173:ai:=by
 have:aD 173 Tryz.f205=some ?F:=by conv=>lhs;reduce;try dsimp
 exact ?F
def f174:ai:=by
 have:aD 174 Tryz.f206=some ?F:=by conv=>lhs;reduce;try dsimp
 exact ?F
def f180:ai:=by
 have:aD 180 Tryz.f210=some ?F:=by conv=>lhs;reduce;try dsimp
 exact ?F
def f181:ai:=by
 have:aD 181 Tryz.f211=some ?F:=by conv=>lhs;reduce;try dsimp
 exact ?F
def f182:ai:=by
 have:aD 182 Tryz.f212=some ?F:=by conv=>lhs;reduce;try dsimp
 exact ?F
def f183:ai:=by
 have:aD 183 Tryz.f213=some ?F:=by conv=>lhs;reduce;try dsimp
 exact ?F
def f184:ai:=by
 have:aD 184 Tryz.f214=some ?F:=by conv=>lhs;reduce;try dsimp
 exact ?F
def f185:ai:=by
 have:aD 185 Tryz.f215=some ?F:=by conv=>lhs;reduce;try dsimp
 exact ?F
def f186:ai:=by
 have:aD 186 Tryz.f216=some ?F:=by conv=>lhs;reduce;try dsimp
 exact ?F
def f187:ai:=by
 have:aD 187 Tryz.f217=some ?F:=by conv=>lhs;reduce;try dsimp
 exact ?F
def f188:ai:=by
 have:aD 188 Tryz.f218=some ?F:=by conv=>lhs;reduce;try dsimp
 exact ?F
def f189:ai:=by
 have:aD 189 Tryz.f219=some ?F:=by conv=>lhs;reduce;try dsimp
 exact ?F
def f190:ai:=by
 have:aD 190 Tryz.f220=some ?F:=by conv=>lhs;reduce;try dsimp
 exact ?F
def f191:ai:=by
 have:aD 191 Tryz.f221=some ?F:=by conv=>lhs;reduce;try dsimp
 exact ?F
def f195:ai:=by
 have:aD 195 Tryz.f225=some ?F:=by conv=>lhs;reduce;try dsimp
 exact ?F
def f203:ai:=by
 have:aD 203 Tryz.f236=some ?F:=by conv=>lhs;reduce;try dsimp
 exact ?F
def f204:ai:=by
 have:aD 204 Tryz.f237=some ?F:=by conv=>lhs;reduce;try dsimp
 exact ?F
def f205:ai:=by
 have:aD 205 Tryz.f238=some ?F:=by conv=>lhs;reduce;try dsimp
 exact ?F
def f207:ai:=by
 have:aD 207 Tryz.f240=some ?F:=by conv=>lhs;reduce;try dsimp
 exact ?F
def f208:ai:=by
 have:aD 208 Tryz.f241=some ?F:=by conv=>lhs;reduce;try dsimp
 exact ?F
def f225:ai:=by
 have:aD 225 Tryz.f255=some ?F:=by conv=>lhs;reduce;try dsimp
 exact ?F
def f226:ai:=by
 have:aD 226 Tryz.f256=some ?F:=by conv=>lhs;reduce;try dsimp
 exact ?F
def f227:ai:=by
 have:aD 227 Tryz.f257=some ?F:=by conv=>lhs;reduce;try dsimp
 exact ?F
def f228:ai:=by
 have:aD 228 Tryz.f258=some ?F:=by conv=>lhs;reduce;try dsimp
 exact ?F
def f229:ai:=by
 have:aD 229 Tryz.f259=some ?F:=by conv=>lhs;reduce;try dsimp
 exact ?F
def f230:ai:=by
 have:aD 230 Tryz.f260=some ?F:=by conv=>lhs;reduce;try dsimp
 exact ?F
def f231:ai:=by
 have:aD 231 Tryz.f261=some ?F:=by conv=>lhs;reduce;try dsimp
 exact ?F
def f232:ai:=by
 have:aD 232 Tryz.f262=some ?F:=by conv=>lhs;reduce;try dsimp
 exact ?F
def f233:ai:=by
 have:aD 233 Tryz.f263=some ?F:=by conv=>lhs;reduce;try dsimp
 exact ?F
def f254:ai:=by
 have:aD 254 Tryz.f287=some ?F:=by conv=>lhs;reduce;try dsimp
 exact ?F
def f255:ai:=by
 have:aD 255 Tryz.f110=some ?F:=by conv=>lhs;reduce;try dsimp
 exact ?F
def f257:ai:=by
 have:aD 257 Tryz.f289=some ?F:=by conv=>lhs;reduce;try dsimp
 exact ?F
def f258:ai:=by
 have:aD 258 Tryz.f290=some ?F:=by conv=>lhs;reduce;try dsimp
 exact ?F
def f266:ai:=by
 have:aD 266 Tryz.f299=some ?F:=by conv=>lhs;reduce;try dsimp
 exact ?F
def f267:ai:=by
 have:aD 267 Tryz.f300=some ?F:=by conv=>lhs;reduce;try dsimp
 exact ?F
def f268:ai:=by
 have:aD 268 Tryz.f301=some ?F:=by conv=>lhs;reduce;try dsimp
 exact ?F
def f282:ai:=by
 have:aD 282 Tryz.f140=some ?F:=by conv=>lhs;reduce;try dsimp
 exact ?F
def f287:ai:=by
 have:aD 287 Tryz.f327=some ?F:=by conv=>lhs;reduce;try dsimp
 exact ?F
def f303:ai:=by
 have:aD 303 Tryz.f343=some ?F:=by conv=>lhs;reduce;try dsimp
 exact ?F
def f1003:ai:=by
 have:aD 1003 Tryz.f3=some ?F:=by conv=>lhs;reduce;try dsimp
 exact ?F
def f1004:ai:=by
 have:aD 1004 Tryz.f4=some ?F:=by conv=>lhs;reduce;try dsimp
 exact ?F
def f1005:ai:=by
 have:aD 1005 Tryz.f5=some ?F:=by conv=>lhs;reduce;try dsimp
 exact ?F
def f1007:ai:=by
 have:aD 1007 Tryz.f7=some ?F:=by conv=>lhs;reduce;try dsimp
 exact ?F
def f1011:ai:=by
 have:aD 1011 Tryz.f11=some ?F:=by conv=>lhs;reduce;try dsimp
 exact ?F
def f1012:ai:=by
 have:aD 1012 Tryz.f12=some ?F:=by conv=>lhs;reduce;try dsimp
 exact ?F
def f1013:ai:=by
 have:aD 1013 Tryz.f13=some ?F:=by conv=>lhs;reduce;try dsimp
 exact ?F
def f1014:ai:=by
 have:aD 1014 Tryz.f14=some ?F:=by conv=>lhs;reduce;try dsimp
 exact ?F
def f1018:ai:=by
 have:aD 1018 Tryz.f18=some ?F:=by conv=>lhs;reduce;try dsimp
 exact ?F
def f1020:ai:=by
 have:aD 1020 Tryz.f20=some ?F:=by conv=>lhs;reduce;try dsimp
 exact ?F
def f1022:ai:=by
 have:aD 1022 Tryz.f22=some ?F:=by conv=>lhs;reduce;try dsimp
 exact ?F
def f1023:ai:=by
 have:aD 1023 Tryz.f23=some ?F:=by conv=>lhs;reduce;try dsimp
 exact ?F
def f1024:ai:=by
 have:aD 1024 Tryz.f24=some ?F:=by conv=>lhs;reduce;try dsimp
 exact ?F
def W_:TF:=[(172,f172),(173,f173),(174,f174),(180,f180),(181,f181),(182,f182),(183,f183),(184,f184),(185,f185),(186,f186),(187,f187),(188,f188),(189,f189),(190,f190),(191,f191),(195,f195),(203,f203),(204,f204),(205,f205),(207,f207),(208,f208),(225,f225),(226,f226),(227,f227),(228,f228),(229,f229),(230,f230),(231,f231),(232,f232),(233,f233),(254,f254),(255,f255),(257,f257),(258,f258),(266,f266),(267,f267),(268,f268),(282,f282),(287,f287),(303,f303),(1003,f1003),(1004,f1004),(1005,f1005),(1007,f1007),(1011,f1011),(1012,f1012),(1013,f1013),(1014,f1014),(1018,f1018),(1020,f1020),(1022,f1022),(1023,f1023),(1024,f1024)]
theorem ajL:yO W_:=by
 unfold W_
 repeat refine Io (by kernel_rfl) ?_
 exact Ip
end Fi.S
