import Derived.Test.YtckkhcnfdmlabaaGreatDoorSCode0
set_option linter.unusedVariables false
set_option linter.unusedSimpArgs false
namespace Fi.S
open Go Fi Go.Proofs
set_option maxHeartbeats 8000000
set_option maxRecDepth 1000000
def f73:ai:=by
 have:aD 73 Tryz.f113=some ?F:=by conv=>lhs;reduce;try dsimp
 exact ?F
def f74:ai:=by
 have:aD 74 Tryz.f73=some ?F:=by conv=>lhs;reduce;try dsimp
 exact ?F
def f77:ai:=by
 have:aD 77 Tryz.f78=some ?F:=by conv=>lhs;reduce;try dsimp
 exact ?F
def f78:ai:=by
 have:aD 78 Tryz.f94=some ?F:=by conv=>lhs;reduce;try dsimp
 exact ?F
def f79:ai:=by
 have:aD 79 Tryz.f119=some ?F:=by conv=>lhs;reduce;try dsimp
 exact ?F
def f80:ai:=by
 have:aD 80 Tryz.f120=some ?F:=by conv=>lhs;reduce;try dsimp
 exact ?F
def f81:ai:=by
 have:aD 81 Tryz.f121=some ?F:=by conv=>lhs;reduce;try dsimp
 exact ?F
def f82:ai:=by
 have:aD 82 Tryz.f122=some ?F:=by conv=>lhs;reduce;try dsimp
 exact ?F
def f83:ai:=by
 have:aD 83 Tryz.f123=some ?F:=by conv=>lhs;reduce;try dsimp
 exact ?F
def f84:ai:=by
 have:aD 84 Tryz.f91=some ?F:=by conv=>lhs;reduce;try dsimp
 exact ?F
def f85:ai:=by
 have:aD 85 Tryz.f86=some ?F:=by conv=>lhs;reduce;try dsimp
 exact ?F
def f86:ai:=by
 have:aD 86 Tryz.f87=some ?F:=by conv=>lhs;reduce;try dsimp
 exact ?F
def f87:ai:=by
 have:aD 87 Tryz.f130=some ?F:=by conv=>lhs;reduce;try dsimp
 exact ?F
def f88:ai:=by
 have:aD 88 Tryz.f131=some ?F:=by conv=>lhs;reduce;try dsimp
 exact ?F
def f89:ai:=by
 have:aD 89 Tryz.f115=some ?F:=by conv=>lhs;reduce;try dsimp
 exact ?F
def f90:ai:=by
 have:aD 90 Tryz.f132=some ?F:=by conv=>lhs;reduce;try dsimp
 exact ?F
def f91:ai:=by
 have:aD 91 Tryz.f133=some ?F:=by conv=>lhs;reduce;try dsimp
 exact ?F
def f92:ai:=by
 have:aD 92 Tryz.f134=some ?F:=by conv=>lhs;reduce;try dsimp
 exact ?F
def f93:ai:=by
 have:aD 93 Tryz.f135=some ?F:=by conv=>lhs;reduce;try dsimp
 exact ?F
def f95:ai:=by
 have:aD 95 Tryz.f253=some ?F:=by conv=>lhs;reduce;try dsimp
 exact ?F
def f97:ai:=by
 have:aD 97 Tryz.f124=some ?F:=by conv=>lhs;reduce;try dsimp
 exact ?F
def f98:ai:=by
 have:aD 98 Tryz.f128=some ?F:=by conv=>lhs;reduce;try dsimp
 exact ?F
def f99:ai:=by
 have:aD 99 Tryz.f125=some ?F:=by conv=>lhs;reduce;try dsimp
 exact ?F
def f100:ai:=by
 have:aD 100 Tryz.f118=some ?F:=by conv=>lhs;reduce;try dsimp
 exact ?F
def f101:ai:=by
 have:aD 101 Tryz.f141=some ?F:=by conv=>lhs;reduce;try dsimp
 exact ?F
def f106:ai:=by
 have:aD 106 Tryz.f116=some ?F:=by conv=>lhs;reduce;try dsimp
 exact ?F
def f107:ai:=by
 have:aD 107 Tryz.f117=some ?F:=by conv=>lhs;reduce;try dsimp
 exact ?F
def f108:ai:=by
 have:aD 108 Tryz.f146=some ?F:=by conv=>lhs;reduce;try dsimp
 exact ?F
def f109:ai:=by
 have:aD 109 Tryz.f147=some ?F:=by conv=>lhs;reduce;try dsimp
 exact ?F
def f110:ai:=by
 have:aD 110 Tryz.f148=some ?F:=by conv=>lhs;reduce;try dsimp
 exact ?F
def f111:ai:=by
 have:aD 111 Tryz.f149=some ?F:=by conv=>lhs;reduce;try dsimp
 exact ?F
def f112:ai:=by
 have:aD 112 Tryz.f150=some ?F:=by conv=>lhs;reduce;try dsimp
 exact ?F
def f113:ai:=by
 have:aD 113 Tryz.f151=some ?F:=by conv=>lhs;reduce;try dsimp
 exact ?F
def f114:ai:=by
 have:aD 114 Tryz.f152=some ?F:=by conv=>lhs;reduce;try dsimp
 exact ?F
def f115:ai:=by
 have:aD 115 Tryz.f153=some ?F:=by conv=>lhs;reduce;try dsimp
 exact ?F
def f116:ai:=by
 have:aD 116 Tryz.f154=some ?F:=by conv=>lhs;reduce;try dsimp
 exact ?F
def f117:ai:=by
 have:aD 117 Tryz.f155=some ?F:=by conv=>lhs;reduce;try dsimp
 exact ?F
def f118:ai:=by
 have:aD 118 Tryz.f156=some ?F:=by conv=>lhs;reduce;try dsimp
 exact ?F
def f119:ai:=by
 have:aD 119 Tryz.f157=some ?F:=by conv=>lhs;reduce;try dsimp
 exact ?F
def f121:ai:=by
 have:aD 121 Tryz.f159=some ?F:=by conv=>lhs;reduce;try dsimp
 exact ?F
def f122:ai:=by
 have:aD 122 Tryz.f160=some ?F:=by conv=>lhs;reduce;try dsimp
 exact ?F
def f123:ai:=by
 have:aD 123 Tryz.f161=some ?F:=by conv=>lhs;reduce;try dsimp
 exact ?F
def f124:ai:=by
 have:aD 124 Tryz.f162=some ?F:=by conv=>lhs;reduce;try dsimp
 exact ?F
def f125:ai:=by
 have:aD 125 Tryz.f163=some ?F:=by conv=>lhs;reduce;try dsimp
 exact ?F
def f126:ai:=by
 have:aD 126 Tryz.f164=some ?F:=by conv=>lhs;reduce;try dsimp
 exact ?F
def f127:ai:=by
 have:aD 127 Tryz.f165=some ?F:=by conv=>lhs;reduce;try dsimp
 exact ?F
def f128:ai:=by
 have:aD 128 Tryz.f166=some ?F:=by conv=>lhs;reduce;try dsimp
 exact ?F
def f130:ai:=by
 have:aD 130 Tryz.f168=some ?F:=by conv=>lhs;reduce;try dsimp
 exact ?F
def f131:ai:=by
 have:aD 131 Tryz.f169=some ?F:=by conv=>lhs;reduce;try dsimp
 exact ?F
def f133:ai:=by
 have:aD 133 Tryz.f171=some ?F:=by conv=>lhs;reduce;try dsimp
 exact ?F
def f134:ai:=by
 have:aD 134 Tryz.f172=some ?F:=by conv=>lhs;reduce;try dsimp
 exact ?F
def f135:ai:=by
 have:aD 135 Tryz.f173=some ?F:=by conv=>lhs;reduce;try dsimp
 exact ?F
def f136:ai:=by
 have:aD 136 Tryz.f174=some ?F:=by conv=>lhs;reduce;try dsimp
 exact ?F
def f137:ai:=by
 have:aD 137 Tryz.f175=some ?F:=by conv=>lhs;reduce;try dsimp
 exact ?F
def f138:ai:=by
 have:aD 138 Tryz.f176=some ?F:=by conv=>lhs;reduce;try dsimp
 exact ?F
def f139:ai:=by
 have:aD 139 Tryz.f177=some ?F:=by conv=>lhs;reduce;try dsimp
 exact ?F
def f140:ai:=by
 have:aD 140 Tryz.f178=some ?F:=by conv=>lhs;reduce;try dsimp
 exact ?F
def f141:ai:=by
 have:aD 141 Tryz.f179=some ?F:=by conv=>lhs;reduce;try dsimp
 exact ?F
def f142:ai:=by
 have:aD 142 Tryz.f180=some ?F:=by conv=>lhs;reduce;try dsimp
 exact ?F
def f143:ai:=by
 have:aD 143 Tryz.f181=some ?F:=by conv=>lhs;reduce;try dsimp
 exact ?F
def f144:ai:=by
 have:aD 144 Tryz.f182=some ?F:=by conv=>lhs;reduce;try dsimp
 exact ?F
def f147:ai:=by
 have:aD 147 Tryz.f185=some ?F:=by conv=>lhs;reduce;try dsimp
 exact ?F
def f149:ai:=by
 have:aD 149 Tryz.f187=some ?F:=by conv=>lhs;reduce;try dsimp
 exact ?F
def f150:ai:=by
 have:aD 150 Tryz.f188=some ?F:=by conv=>lhs;reduce;try dsimp
 exact ?F
def VF:TF:=[(73,f73),(74,f74),(77,f77),(78,f78),(79,f79),(80,f80),(81,f81),(82,f82),(83,f83),(84,f84),(85,f85),(86,f86),(87,f87),(88,f88),(89,f89),(90,f90),(91,f91),(92,f92),(93,f93),(95,f95),(97,f97),(98,f98),(99,f99),(100,f100),(101,f101),(106,f106),(107,f107),(108,f108),(109,f109),(110,f110),(111,f111),(112,f112),(113,f113),(114,f114),(115,f115),(116,f116),(117,f117),(118,f118),(119,f119),(121,f121),(122,f122),(123,f123),(124,f124),(125,f125),(126,f126),(127,f127),(128,f128),(130,f130),(131,f131),(133,f133),(134,f134),(135,f135),(136,f136),(137,f137),(138,f138),(139,f139),(140,f140),(141,f141),(142,f142),(143,f143),(144,f144),(147,f147),(149,f149),(150,f150)]
theorem ahY:xk VF:=by
 unfold VF
 repeat refine GL (by kernel_rfl) ?_
 exact GM
end Fi.S
