import Derived.Test.YtckkhcnfdmlabaaGreatDoorSCode0
set_option linter.unusedVariables false
set_option linter.unusedSimpArgs false
namespace Fi.S
open Go Fi Go.Proofs
set_option maxHeartbeats 8000000
set_option maxRecDepth 1000000
def f151:ai:=by
 have:aD 151 Tryz.f189=some ?F:=by conv=>lhs;reduce;try dsimp
 exact ?F
def f152:ai:=by
 have:aD 152 Tryz.f190=some ?F:=by conv=>lhs;reduce;try dsimp
 exact ?F
def f153:ai:=by
 have:aD 153 Tryz.f191=some ?F:=by conv=>lhs;reduce;try dsimp
 exact ?F
def f154:ai:=by
 have:aD 154 Tryz.f192=some ?F:=by conv=>lhs;reduce;try dsimp
 exact ?F
def f155:ai:=by
 have:aD 155 Tryz.f193=some ?F:=by conv=>lhs;reduce;try dsimp
 exact ?F
def f156:ai:=by
 have:aD 156 Tryz.f194=some ?F:=by conv=>lhs;reduce;try dsimp
 exact ?F
def f157:ai:=by
 have:aD 157 Tryz.f195=some ?F:=by conv=>lhs;reduce;try dsimp
 exact ?F
def f158:ai:=by
 have:aD 158 Tryz.f196=some ?F:=by conv=>lhs;reduce;try dsimp
 exact ?F
def f160:ai:=by
 have:aD 160 Tryz.f198=some ?F:=by conv=>lhs;reduce;try dsimp
 exact ?F
def f163:ai:=by
 have:aD 163 Tryz.f201=some ?F:=by conv=>lhs;reduce;try dsimp
 exact ?F
def f167:ai:=by
 have:aD 167 Tryz.f127=some ?F:=by conv=>lhs;reduce;try dsimp
 exact ?F
def f168:ai:=by
 have:aD 168 Tryz.f129=some ?F:=by conv=>lhs;reduce;try dsimp
 exact ?F
def f169:ai:=by
 have:aD 169 Tryz.f145=some ?F:=by conv=>lhs;reduce;try dsimp
 exact ?F
def f170:ai:=by
 have:aD 170 Tryz.f142=some ?F:=by conv=>lhs;reduce;try dsimp
 exact ?F
def f171:ai:=by
 have:aD 171 Tryz.f143=some ?F:=by conv=>lhs;reduce;try dsimp
 exact ?F
def f172:ai:=by
 have:aD 172 Tryz.f144=some ?F:=by conv=>lhs;reduce;try dsimp
 exact ?F
def f173:ai:=by
 have:aD 173 Tryz.f205=some ?F:=by conv=>lhs;reduce;try dsimp
 exact ?F
def f174:ai:=by
 have:aD 174 Tryz.f206=some ?F:=by conv=>lhs;reduce;try dsimp
 exact ?F
def f180:ai:=by
 have:aD 180 Tryz.f210=some ?F:=by conv=>lhs;reduce;try dsimp
 exact ?F
def f181:ai:=by
 have:aD 181 Tryz.f211=some ?F:=by conv=>lhs;reduce;try dsimp
 exact ?F
def f182:ai:=by
 have:aD 182 Tryz.f212=some ?F:=by conv=>lhs;reduce;try dsimp
 exact ?F
def f183:ai:=by
 have:aD 183 Tryz.f213=some ?F:=by conv=>lhs;reduce;try dsimp
 exact ?F
def f184:ai:=by
 have:aD 184 Tryz.f214=some ?F:=by conv=>lhs;reduce;try dsimp
 exact ?F
def f185:ai:=by
 have:aD 185 Tryz.f215=some ?F:=by conv=>lhs;reduce;try dsimp
 exact ?F
def f186:ai:=by
 have:aD 186 Tryz.f216=some ?F:=by conv=>lhs;reduce;try dsimp
 exact ?F
def f187:ai:=by
 have:aD 187 Tryz.f217=some ?F:=by conv=>lhs;reduce;try dsimp
 exact ?F
def f188:ai:=by
 have:aD 188 Tryz.f218=some ?F:=by conv=>lhs;reduce;try dsimp
 exact ?F
def f189:ai:=by
 have:aD 189 Tryz.f219=some ?F:=by conv=>lhs;reduce;try dsimp
 exact ?F
def f190:ai:=by
 have:aD 190 Tryz.f220=some ?F:=by conv=>lhs;reduce;try dsimp
 exact ?F
def f191:ai:=by
 have:aD 191 Tryz.f221=some ?F:=by conv=>lhs;reduce;try dsimp
 exact ?F
def f195:ai:=by
 have:aD 195 Tryz.f225=some ?F:=by conv=>lhs;reduce;try dsimp
 exact ?F
def f203:ai:=by
 have:aD 203 Tryz.f236=some ?F:=by conv=>lhs;reduce;try dsimp
 exact ?F
def f204:ai:=by
 have:aD 204 Tryz.f237=some ?F:=by conv=>lhs;reduce;try dsimp
 exact ?F
def f205:ai:=by
 have:aD 205 Tryz.f238=some ?F:=by conv=>lhs;reduce;try dsimp
 exact ?F
def f207:ai:=by
 have:aD 207 Tryz.f240=some ?F:=by conv=>lhs;reduce;try dsimp
 exact ?F
def f208:ai:=by
 have:aD 208 Tryz.f241=some ?F:=by conv=>lhs;reduce;try dsimp
 exact ?F
def f225:ai:=by
 have:aD 225 Tryz.f255=some ?F:=by conv=>lhs;reduce;try dsimp
 exact ?F
def f226:ai:=by
 have:aD 226 Tryz.f256=some ?F:=by conv=>lhs;reduce;try dsimp
 exact ?F
def f227:ai:=by
 have:aD 227 Tryz.f257=some ?F:=by conv=>lhs;reduce;try dsimp
 exact ?F
def f228:ai:=by
 have:aD 228 Tryz.f258=some ?F:=by conv=>lhs;reduce;try dsimp
 exact ?F
def f229:ai:=by
 have:aD 229 Tryz.f259=some ?F:=by conv=>lhs;reduce;try dsimp
 exact ?F
def f230:ai:=by
 have:aD 230 Tryz.f260=some ?F:=by conv=>lhs;reduce;try dsimp
 exact ?F
def f231:ai:=by
 have:aD 231 Tryz.f261=some ?F:=by conv=>lhs;reduce;try dsimp
 exact ?F
def f232:ai:=by
 have:aD 232 Tryz.f262=some ?F:=by conv=>lhs;reduce;try dsimp
 exact ?F
def f233:ai:=by
 have:aD 233 Tryz.f263=some ?F:=by conv=>lhs;reduce;try dsimp
 exact ?F
def f254:ai:=by
 have:aD 254 Tryz.f287=some ?F:=by conv=>lhs;reduce;try dsimp
 exact ?F
def f255:ai:=by
 have:aD 255 Tryz.f110=some ?F:=by conv=>lhs;reduce;try dsimp
 exact ?F
def f257:ai:=by
 have:aD 257 Tryz.f289=some ?F:=by conv=>lhs;reduce;try dsimp
 exact ?F
def f258:ai:=by
 have:aD 258 Tryz.f290=some ?F:=by conv=>lhs;reduce;try dsimp
 exact ?F
def f266:ai:=by
 have:aD 266 Tryz.f299=some ?F:=by conv=>lhs;reduce;try dsimp
 exact ?F
def f267:ai:=by
 have:aD 267 Tryz.f300=some ?F:=by conv=>lhs;reduce;try dsimp
 exact ?F
def f268:ai:=by
 have:aD 268 Tryz.f301=some ?F:=by conv=>lhs;reduce;try dsimp
 exact ?F
def f282:ai:=by
 have:aD 282 Tryz.f140=some ?F:=by conv=>lhs;reduce;try dsimp
 exact ?F
def f287:ai:=by
 have:aD 287 Tryz.f327=some ?F:=by conv=>lhs;reduce;try dsimp
 exact ?F
def f303:ai:=by
 have:aD 303 Tryz.f343=some ?F:=by conv=>lhs;reduce;try dsimp
 exact ?F
def f1006:ai:=by
 have:aD 1006 Tryz.f6=some ?F:=by conv=>lhs;reduce;try dsimp
 exact ?F
def f1011:ai:=by
 have:aD 1011 Tryz.f11=some ?F:=by conv=>lhs;reduce;try dsimp
 exact ?F
def VG:TF:=[(151,f151),(152,f152),(153,f153),(154,f154),(155,f155),(156,f156),(157,f157),(158,f158),(160,f160),(163,f163),(167,f167),(168,f168),(169,f169),(170,f170),(171,f171),(172,f172),(173,f173),(174,f174),(180,f180),(181,f181),(182,f182),(183,f183),(184,f184),(185,f185),(186,f186),(187,f187),(188,f188),(189,f189),(190,f190),(191,f191),(195,f195),(203,f203),(204,f204),(205,f205),(207,f207),(208,f208),(225,f225),(226,f226),(227,f227),(228,f228),(229,f229),(230,f230),(231,f231),(232,f232),(233,f233),(254,f254),(255,f255),(257,f257),(258,f258),(266,f266),(267,f267),(268,f268),(282,f282),(287,f287),(303,f303),(1006,f1006),(1011,f1011)]
theorem ahZ:xk VG:=by
 unfold VG
 repeat refine GL (by kernel_rfl) ?_
 exact GM
end Fi.S
