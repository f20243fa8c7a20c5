import Derived.Test.YthojoinggmjklaaGreatDoorSCode0
set_option linter.unusedVariables false
set_option linter.unusedSimpArgs false
namespace Fi.S
open Go Fi Go.Proofs
set_option maxHeartbeats 8000000
set_option maxRecDepth 1000000
def f169:ai:=by
 have:aC 169 Tryz.f99=some ?F:=by conv=>lhs;reduce;try dsimp
 exact ?F
def f170:ai:=by
 have:aC 170 Tryz.f96=some ?F:=by conv=>lhs;reduce;try dsimp
 exact ?F
def f171:ai:=by
 have:aC 171 Tryz.f97=some ?F:=by conv=>lhs;reduce;try dsimp
 exact ?F
def f172:ai:=by
 have:aC 172 Tryz.f98=some ?F:=by conv=>lhs;reduce;try dsimp
 exact ?F
def f173:ai:=by
 have:aC 173 Tryz.f223=some ?F:=by conv=>lhs;reduce;try dsimp
 exact ?F
def f174:ai:=by
 have:aC 174 Tryz.f224=some ?F:=by conv=>lhs;reduce;try dsimp
 exact ?F
def f180:ai:=by
 have:aC 180 Tryz.f180=some ?F:=by conv=>lhs;reduce;try dsimp
 exact ?F
def f181:ai:=by
 have:aC 181 Tryz.f181=some ?F:=by conv=>lhs;reduce;try dsimp
 exact ?F
def f182:ai:=by
 have:aC 182 Tryz.f182=some ?F:=by conv=>lhs;reduce;try dsimp
 exact ?F
def f183:ai:=by
 have:aC 183 Tryz.f183=some ?F:=by conv=>lhs;reduce;try dsimp
 exact ?F
def f184:ai:=by
 have:aC 184 Tryz.f184=some ?F:=by conv=>lhs;reduce;try dsimp
 exact ?F
def f185:ai:=by
 have:aC 185 Tryz.f185=some ?F:=by conv=>lhs;reduce;try dsimp
 exact ?F
def f186:ai:=by
 have:aC 186 Tryz.f186=some ?F:=by conv=>lhs;reduce;try dsimp
 exact ?F
def f187:ai:=by
 have:aC 187 Tryz.f187=some ?F:=by conv=>lhs;reduce;try dsimp
 exact ?F
def f188:ai:=by
 have:aC 188 Tryz.f188=some ?F:=by conv=>lhs;reduce;try dsimp
 exact ?F
def f189:ai:=by
 have:aC 189 Tryz.f189=some ?F:=by conv=>lhs;reduce;try dsimp
 exact ?F
def f190:ai:=by
 have:aC 190 Tryz.f190=some ?F:=by conv=>lhs;reduce;try dsimp
 exact ?F
def f191:ai:=by
 have:aC 191 Tryz.f191=some ?F:=by conv=>lhs;reduce;try dsimp
 exact ?F
def f195:ai:=by
 have:aC 195 Tryz.f195=some ?F:=by conv=>lhs;reduce;try dsimp
 exact ?F
def f203:ai:=by
 have:aC 203 Tryz.f206=some ?F:=by conv=>lhs;reduce;try dsimp
 exact ?F
def f204:ai:=by
 have:aC 204 Tryz.f207=some ?F:=by conv=>lhs;reduce;try dsimp
 exact ?F
def f205:ai:=by
 have:aC 205 Tryz.f208=some ?F:=by conv=>lhs;reduce;try dsimp
 exact ?F
def f207:ai:=by
 have:aC 207 Tryz.f210=some ?F:=by conv=>lhs;reduce;try dsimp
 exact ?F
def f208:ai:=by
 have:aC 208 Tryz.f211=some ?F:=by conv=>lhs;reduce;try dsimp
 exact ?F
def f225:ai:=by
 have:aC 225 Tryz.f227=some ?F:=by conv=>lhs;reduce;try dsimp
 exact ?F
def f226:ai:=by
 have:aC 226 Tryz.f228=some ?F:=by conv=>lhs;reduce;try dsimp
 exact ?F
def f227:ai:=by
 have:aC 227 Tryz.f229=some ?F:=by conv=>lhs;reduce;try dsimp
 exact ?F
def f228:ai:=by
 have:aC 228 Tryz.f230=some ?F:=by conv=>lhs;reduce;try dsimp
 exact ?F
def f229:ai:=by
 have:aC 229 Tryz.f231=some ?F:=by conv=>lhs;reduce;try dsimp
 exact ?F
def f230:ai:=by
 have:aC 230 Tryz.f232=some ?F:=by conv=>lhs;reduce;try dsimp
 exact ?F
def f231:ai:=by
 have:aC 231 Tryz.f233=some ?F:=by conv=>lhs;reduce;try dsimp
 exact ?F
def f232:ai:=by
 have:aC 232 Tryz.f234=some ?F:=by conv=>lhs;reduce;try dsimp
 exact ?F
def f233:ai:=by
 have:aC 233 Tryz.f235=some ?F:=by conv=>lhs;reduce;try dsimp
 exact ?F
def f254:ai:=by
 have:aC 254 Tryz.f259=some ?F:=by conv=>lhs;reduce;try dsimp
 exact ?F
def f255:ai:=by
 have:aC 255 Tryz.f104=some ?F:=by conv=>lhs;reduce;try dsimp
 exact ?F
def f257:ai:=by
 have:aC 257 Tryz.f261=some ?F:=by conv=>lhs;reduce;try dsimp
 exact ?F
def f258:ai:=by
 have:aC 258 Tryz.f262=some ?F:=by conv=>lhs;reduce;try dsimp
 exact ?F
def f266:ai:=by
 have:aC 266 Tryz.f272=some ?F:=by conv=>lhs;reduce;try dsimp
 exact ?F
def f267:ai:=by
 have:aC 267 Tryz.f273=some ?F:=by conv=>lhs;reduce;try dsimp
 exact ?F
def f268:ai:=by
 have:aC 268 Tryz.f274=some ?F:=by conv=>lhs;reduce;try dsimp
 exact ?F
def f282:ai:=by
 have:aC 282 Tryz.f178=some ?F:=by conv=>lhs;reduce;try dsimp
 exact ?F
def f287:ai:=by
 have:aC 287 Tryz.f300=some ?F:=by conv=>lhs;reduce;try dsimp
 exact ?F
def f303:ai:=by
 have:aC 303 Tryz.f316=some ?F:=by conv=>lhs;reduce;try dsimp
 exact ?F
def f1007:ai:=by
 have:aC 1007 Tryz.f3=some ?F:=by conv=>lhs;reduce;try dsimp
 exact ?F
def f1011:ai:=by
 have:aC 1011 Tryz.f5=some ?F:=by conv=>lhs;reduce;try dsimp
 exact ?F
def f1014:ai:=by
 have:aC 1014 Tryz.f8=some ?F:=by conv=>lhs;reduce;try dsimp
 exact ?F
def f1020:ai:=by
 have:aC 1020 Tryz.f18=some ?F:=by conv=>lhs;reduce;try dsimp
 exact ?F
def f1023:ai:=by
 have:aC 1023 Tryz.f4=some ?F:=by conv=>lhs;reduce;try dsimp
 exact ?F
def f1024:ai:=by
 have:aC 1024 Tryz.f15=some ?F:=by conv=>lhs;reduce;try dsimp
 exact ?F
def f1026:ai:=by
 have:aC 1026 Tryz.f16=some ?F:=by conv=>lhs;reduce;try dsimp
 exact ?F
def SV:TF:=[(169,f169),(170,f170),(171,f171),(172,f172),(173,f173),(174,f174),(180,f180),(181,f181),(182,f182),(183,f183),(184,f184),(185,f185),(186,f186),(187,f187),(188,f188),(189,f189),(190,f190),(191,f191),(195,f195),(203,f203),(204,f204),(205,f205),(207,f207),(208,f208),(225,f225),(226,f226),(227,f227),(228,f228),(229,f229),(230,f230),(231,f231),(232,f232),(233,f233),(254,f254),(255,f255),(257,f257),(258,f258),(266,f266),(267,f267),(268,f268),(282,f282),(287,f287),(303,f303),(1007,f1007),(1011,f1011),(1014,f1014),(1020,f1020),(1023,f1023),(1024,f1024),(1026,f1026)]
theorem aff:vN SV:=by
 unfold SV
 repeat refine ET (by kernel_rfl) ?_
 exact EU
end Fi.S
