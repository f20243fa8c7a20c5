import Derived.Test.YtkekcmgkpdkieaaGreatDoorSCode0
namespace Fi.S
open Go Fi Go.Proofs
set_option maxHeartbeats 8000000
set_option maxRecDepth 1000000
def f74:ai:=by
 have:aF 74 Tryz.f46=some ?F:=by conv=>lhs;reduce;try dsimp
 exact ?F
def f77:ai:=by
 have:aF 77 Tryz.f90=some ?F:=by conv=>lhs;reduce;try dsimp
 exact ?F
def f78:ai:=by
 have:aF 78 Tryz.f97=some ?F:=by conv=>lhs;reduce;try dsimp
 exact ?F
def f79:ai:=by
 have:aF 79 Tryz.f156=some ?F:=by conv=>lhs;reduce;try dsimp
 exact ?F
def f80:ai:=by
 have:aF 80 Tryz.f157=some ?F:=by conv=>lhs;reduce;try dsimp
 exact ?F
def f81:ai:=by
 have:aF 81 Tryz.f158=some ?F:=by conv=>lhs;reduce;try dsimp
 exact ?F
def f82:ai:=by
 have:aF 82 Tryz.f159=some ?F:=by conv=>lhs;reduce;try dsimp
 exact ?F
def f83:ai:=by
 have:aF 83 Tryz.f160=some ?F:=by conv=>lhs;reduce;try dsimp
 exact ?F
def f84:ai:=by
 have:aF 84 Tryz.f115=some ?F:=by conv=>lhs;reduce;try dsimp
 exact ?F
def f85:ai:=by
 have:aF 85 Tryz.f116=some ?F:=by conv=>lhs;reduce;try dsimp
 exact ?F
def f86:ai:=by
 have:aF 86 Tryz.f117=some ?F:=by conv=>lhs;reduce;try dsimp
 exact ?F
def f87:ai:=by
 have:aF 87 Tryz.f140=some ?F:=by conv=>lhs;reduce;try dsimp
 exact ?F
def f88:ai:=by
 have:aF 88 Tryz.f141=some ?F:=by conv=>lhs;reduce;try dsimp
 exact ?F
def f89:ai:=by
 have:aF 89 Tryz.f135=some ?F:=by conv=>lhs;reduce;try dsimp
 exact ?F
def f90:ai:=by
 have:aF 90 Tryz.f142=some ?F:=by conv=>lhs;reduce;try dsimp
 exact ?F
def f91:ai:=by
 have:aF 91 Tryz.f143=some ?F:=by conv=>lhs;reduce;try dsimp
 exact ?F
def f92:ai:=by
 have:aF 92 Tryz.f144=some ?F:=by conv=>lhs;reduce;try dsimp
 exact ?F
def f93:ai:=by
 have:aF 93 Tryz.f145=some ?F:=by conv=>lhs;reduce;try dsimp
 exact ?F
def f95:ai:=by
 have:aF 95 Tryz.f230=some ?F:=by conv=>lhs;reduce;try dsimp
 exact ?F
def f97:ai:=by
 have:aF 97 Tryz.f131=some ?F:=by conv=>lhs;reduce;try dsimp
 exact ?F
def f98:ai:=by
 have:aF 98 Tryz.f132=some ?F:=by conv=>lhs;reduce;try dsimp
 exact ?F
def f99:ai:=by
 have:aF 99 Tryz.f133=some ?F:=by conv=>lhs;reduce;try dsimp
 exact ?F
def f100:ai:=by
 have:aF 100 Tryz.f154=some ?F:=by conv=>lhs;reduce;try dsimp
 exact ?F
def f101:ai:=by
 have:aF 101 Tryz.f139=some ?F:=by conv=>lhs;reduce;try dsimp
 exact ?F
def f106:ai:=by
 have:aF 106 Tryz.f136=some ?F:=by conv=>lhs;reduce;try dsimp
 exact ?F
def f107:ai:=by
 have:aF 107 Tryz.f137=some ?F:=by conv=>lhs;reduce;try dsimp
 exact ?F
def f108:ai:=by
 have:aF 108 Tryz.f170=some ?F:=by conv=>lhs;reduce;try dsimp
 exact ?F
def f109:ai:=by
 have:aF 109 Tryz.f171=some ?F:=by conv=>lhs;reduce;try dsimp
 exact ?F
def f110:ai:=by
 have:aF 110 Tryz.f172=some ?F:=by conv=>lhs;reduce;try dsimp
 exact ?F
def f111:ai:=by
 have:aF 111 Tryz.f173=some ?F:=by conv=>lhs;reduce;try dsimp
 exact ?F
def f112:ai:=by
 have:aF 112 Tryz.f174=some ?F:=by conv=>lhs;reduce;try dsimp
 exact ?F
def f113:ai:=by
 have:aF 113 Tryz.f175=some ?F:=by conv=>lhs;reduce;try dsimp
 exact ?F
def f114:ai:=by
 have:aF 114 Tryz.f176=some ?F:=by conv=>lhs;reduce;try dsimp
 exact ?F
def f115:ai:=by
 have:aF 115 Tryz.f177=some ?F:=by conv=>lhs;reduce;try dsimp
 exact ?F
def f116:ai:=by
 have:aF 116 Tryz.f178=some ?F:=by conv=>lhs;reduce;try dsimp
 exact ?F
def f117:ai:=by
 have:aF 117 Tryz.f179=some ?F:=by conv=>lhs;reduce;try dsimp
 exact ?F
def f118:ai:=by
 have:aF 118 Tryz.f180=some ?F:=by conv=>lhs;reduce;try dsimp
 exact ?F
def f119:ai:=by
 have:aF 119 Tryz.f181=some ?F:=by conv=>lhs;reduce;try dsimp
 exact ?F
def f121:ai:=by
 have:aF 121 Tryz.f183=some ?F:=by conv=>lhs;reduce;try dsimp
 exact ?F
def f122:ai:=by
 have:aF 122 Tryz.f184=some ?F:=by conv=>lhs;reduce;try dsimp
 exact ?F
def f123:ai:=by
 have:aF 123 Tryz.f185=some ?F:=by conv=>lhs;reduce;try dsimp
 exact ?F
def f124:ai:=by
 have:aF 124 Tryz.f186=some ?F:=by conv=>lhs;reduce;try dsimp
 exact ?F
def f125:ai:=by
 have:aF 125 Tryz.f187=some ?F:=by conv=>lhs;reduce;try dsimp
 exact ?F
def f126:ai:=by
 have:aF 126 Tryz.f188=some ?F:=by conv=>lhs;reduce;try dsimp
 exact ?F
def f127:ai:=by
 have:aF 127 Tryz.f189=some ?F:=by conv=>lhs;reduce;try dsimp
 exact ?F
def f128:ai:=by
 have:aF 128 Tryz.f190=some ?F:=by conv=>lhs;reduce;try dsimp
 exact ?F
def f130:ai:=by
 have:aF 130 Tryz.f192=some ?F:=by conv=>lhs;reduce;try dsimp
 exact ?F
def f131:ai:=by
 have:aF 131 Tryz.f193=some ?F:=by conv=>lhs;reduce;try dsimp
 exact ?F
def f133:ai:=by
 have:aF 133 Tryz.f195=some ?F:=by conv=>lhs;reduce;try dsimp
 exact ?F
def f134:ai:=by
 have:aF 134 Tryz.f196=some ?F:=by conv=>lhs;reduce;try dsimp
 exact ?F
def f135:ai:=by
 have:aF 135 Tryz.f197=some ?F:=by conv=>lhs;reduce;try dsimp
 exact ?F
def f136:ai:=by
 have:aF 136 Tryz.f198=some ?F:=by conv=>lhs;reduce;try dsimp
 exact ?F
def f137:ai:=by
 have:aF 137 Tryz.f199=some ?F:=by conv=>lhs;reduce;try dsimp
 exact ?F
def f138:ai:=by
 have:aF 138 Tryz.f200=some ?F:=by conv=>lhs;reduce;try dsimp
 exact ?F
def f139:ai:=by
 have:aF 139 Tryz.f201=some ?F:=by conv=>lhs;reduce;try dsimp
 exact ?F
def f140:ai:=by
 have:aF 140 Tryz.f202=some ?F:=by conv=>lhs;reduce;try dsimp
 exact ?F
def f141:ai:=by
 have:aF 141 Tryz.f203=some ?F:=by conv=>lhs;reduce;try dsimp
 exact ?F
def f142:ai:=by
 have:aF 142 Tryz.f204=some ?F:=by conv=>lhs;reduce;try dsimp
 exact ?F
def f143:ai:=by
 have:aF 143 Tryz.f205=some ?F:=by conv=>lhs;reduce;try dsimp
 exact ?F
def f144:ai:=by
 have:aF 144 Tryz.f206=some ?F:=by conv=>lhs;reduce;try dsimp
 exact ?F
def f147:ai:=by
 have:aF 147 Tryz.f209=some ?F:=by conv=>lhs;reduce;try dsimp
 exact ?F
def f149:ai:=by
 have:aF 149 Tryz.f211=some ?F:=by conv=>lhs;reduce;try dsimp
 exact ?F
def f150:ai:=by
 have:aF 150 Tryz.f212=some ?F:=by conv=>lhs;reduce;try dsimp
 exact ?F
def f151:ai:=by
 have:aF 151 Tryz.f213=some ?F:=by conv=>lhs;reduce;try dsimp
 exact ?F
def f152:ai:=by
 have:aF 152 Tryz.f214=some ?F:=by conv=>lhs;reduce;try dsimp
 exact ?F
def f153:ai:=by
 have:aF 153 Tryz.f215=some ?F:=by conv=>lhs;reduce;try dsimp
 exact ?F
def f154:ai:=by
 have:aF 154 Tryz.f216=some ?F:=by conv=>lhs;reduce;try dsimp
 exact ?F
def f155:ai:=by
 have:aF 155 Tryz.f217=some ?F:=by conv=>lhs;reduce;try dsimp
 exact ?F
def Xi:TF:=[(74,f74),(77,f77),(78,f78),(79,f79),(80,f80),(81,f81),(82,f82),(83,f83),(84,f84),(85,f85),(86,f86),(87,f87),(88,f88),(89,f89),(90,f90),(91,f91),(92,f92),(93,f93),(95,f95),(97,f97),(98,f98),(99,f99),(100,f100),(101,f101),(106,f106),(107,f107),(108,f108),(109,f109),(110,f110),(111,f111),(112,f112),(113,f113),(114,f114),(115,f115),(116,f116),(117,f117),(118,f118),(119,f119),(121,f121),(122,f122),(123,f123),(124,f124),(125,f125),(126,f126),(127,f127),(128,f128),(130,f130),(131,f131),(133,f133),(134,f134),(135,f135),(136,f136),(137,f137),(138,f138),(139,f139),(140,f140),(141,f141),(142,f142),(143,f143),(144,f144),(147,f147),(149,f149),(150,f150),(151,f151),(152,f152),(153,f153),(154,f154),(155,f155)]
theorem ajv:yh Xi:=by
 unfold Xi
 repeat refine Ig (by kernel_rfl) ?_
 exact Ih
end Fi.S
