import Derived.Test.YthojoinggmjklaaGreatDoorSCode0
set_option linter.unusedVariables false
set_option linter.unusedSimpArgs false
namespace Fi.S
open Go Fi Go.Proofs
set_option maxHeartbeats 8000000
set_option maxRecDepth 1000000
def f85:ai:=by
 have:aC 85 Tryz.f60=some ?F:=by conv=>lhs;reduce;try dsimp
 exact ?F
def f86:ai:=by
 have:aC 86 Tryz.f109=some ?F:=by conv=>lhs;reduce;try dsimp
 exact ?F
def f87:ai:=by
 have:aC 87 Tryz.f171=some ?F:=by conv=>lhs;reduce;try dsimp
 exact ?F
def f88:ai:=by
 have:aC 88 Tryz.f172=some ?F:=by conv=>lhs;reduce;try dsimp
 exact ?F
def f89:ai:=by
 have:aC 89 Tryz.f61=some ?F:=by conv=>lhs;reduce;try dsimp
 exact ?F
def f90:ai:=by
 have:aC 90 Tryz.f173=some ?F:=by conv=>lhs;reduce;try dsimp
 exact ?F
def f91:ai:=by
 have:aC 91 Tryz.f174=some ?F:=by conv=>lhs;reduce;try dsimp
 exact ?F
def f92:ai:=by
 have:aC 92 Tryz.f175=some ?F:=by conv=>lhs;reduce;try dsimp
 exact ?F
def f93:ai:=by
 have:aC 93 Tryz.f179=some ?F:=by conv=>lhs;reduce;try dsimp
 exact ?F
def f94:ai:=by
 have:aC 94 Tryz.f25=some ?F:=by conv=>lhs;reduce;try dsimp
 exact ?F
def f95:ai:=by
 have:aC 95 Tryz.f271=some ?F:=by conv=>lhs;reduce;try dsimp
 exact ?F
def f97:ai:=by
 have:aC 97 Tryz.f95=some ?F:=by conv=>lhs;reduce;try dsimp
 exact ?F
def f98:ai:=by
 have:aC 98 Tryz.f92=some ?F:=by conv=>lhs;reduce;try dsimp
 exact ?F
def f99:ai:=by
 have:aC 99 Tryz.f107=some ?F:=by conv=>lhs;reduce;try dsimp
 exact ?F
def f100:ai:=by
 have:aC 100 Tryz.f81=some ?F:=by conv=>lhs;reduce;try dsimp
 exact ?F
def f101:ai:=by
 have:aC 101 Tryz.f170=some ?F:=by conv=>lhs;reduce;try dsimp
 exact ?F
def f106:ai:=by
 have:aC 106 Tryz.f62=some ?F:=by conv=>lhs;reduce;try dsimp
 exact ?F
def f107:ai:=by
 have:aC 107 Tryz.f63=some ?F:=by conv=>lhs;reduce;try dsimp
 exact ?F
def f108:ai:=by
 have:aC 108 Tryz.f111=some ?F:=by conv=>lhs;reduce;try dsimp
 exact ?F
def f109:ai:=by
 have:aC 109 Tryz.f112=some ?F:=by conv=>lhs;reduce;try dsimp
 exact ?F
def f110:ai:=by
 have:aC 110 Tryz.f113=some ?F:=by conv=>lhs;reduce;try dsimp
 exact ?F
def f111:ai:=by
 have:aC 111 Tryz.f114=some ?F:=by conv=>lhs;reduce;try dsimp
 exact ?F
def f112:ai:=by
 have:aC 112 Tryz.f115=some ?F:=by conv=>lhs;reduce;try dsimp
 exact ?F
def f113:ai:=by
 have:aC 113 Tryz.f116=some ?F:=by conv=>lhs;reduce;try dsimp
 exact ?F
def f114:ai:=by
 have:aC 114 Tryz.f117=some ?F:=by conv=>lhs;reduce;try dsimp
 exact ?F
def f115:ai:=by
 have:aC 115 Tryz.f118=some ?F:=by conv=>lhs;reduce;try dsimp
 exact ?F
def f116:ai:=by
 have:aC 116 Tryz.f119=some ?F:=by conv=>lhs;reduce;try dsimp
 exact ?F
def f117:ai:=by
 have:aC 117 Tryz.f120=some ?F:=by conv=>lhs;reduce;try dsimp
 exact ?F
def f118:ai:=by
 have:aC 118 Tryz.f121=some ?F:=by conv=>lhs;reduce;try dsimp
 exact ?F
def f119:ai:=by
 have:aC 119 Tryz.f122=some ?F:=by conv=>lhs;reduce;try dsimp
 exact ?F
def f121:ai:=by
 have:aC 121 Tryz.f124=some ?F:=by conv=>lhs;reduce;try dsimp
 exact ?F
def f122:ai:=by
 have:aC 122 Tryz.f125=some ?F:=by conv=>lhs;reduce;try dsimp
 exact ?F
def f123:ai:=by
 have:aC 123 Tryz.f126=some ?F:=by conv=>lhs;reduce;try dsimp
 exact ?F
def f124:ai:=by
 have:aC 124 Tryz.f127=some ?F:=by conv=>lhs;reduce;try dsimp
 exact ?F
def f125:ai:=by
 have:aC 125 Tryz.f128=some ?F:=by conv=>lhs;reduce;try dsimp
 exact ?F
def f126:ai:=by
 have:aC 126 Tryz.f129=some ?F:=by conv=>lhs;reduce;try dsimp
 exact ?F
def f127:ai:=by
 have:aC 127 Tryz.f130=some ?F:=by conv=>lhs;reduce;try dsimp
 exact ?F
def f128:ai:=by
 have:aC 128 Tryz.f131=some ?F:=by conv=>lhs;reduce;try dsimp
 exact ?F
def f130:ai:=by
 have:aC 130 Tryz.f133=some ?F:=by conv=>lhs;reduce;try dsimp
 exact ?F
def f131:ai:=by
 have:aC 131 Tryz.f134=some ?F:=by conv=>lhs;reduce;try dsimp
 exact ?F
def f133:ai:=by
 have:aC 133 Tryz.f136=some ?F:=by conv=>lhs;reduce;try dsimp
 exact ?F
def f134:ai:=by
 have:aC 134 Tryz.f137=some ?F:=by conv=>lhs;reduce;try dsimp
 exact ?F
def f135:ai:=by
 have:aC 135 Tryz.f138=some ?F:=by conv=>lhs;reduce;try dsimp
 exact ?F
def f136:ai:=by
 have:aC 136 Tryz.f139=some ?F:=by conv=>lhs;reduce;try dsimp
 exact ?F
def f137:ai:=by
 have:aC 137 Tryz.f140=some ?F:=by conv=>lhs;reduce;try dsimp
 exact ?F
def f138:ai:=by
 have:aC 138 Tryz.f141=some ?F:=by conv=>lhs;reduce;try dsimp
 exact ?F
def f139:ai:=by
 have:aC 139 Tryz.f142=some ?F:=by conv=>lhs;reduce;try dsimp
 exact ?F
def f140:ai:=by
 have:aC 140 Tryz.f143=some ?F:=by conv=>lhs;reduce;try dsimp
 exact ?F
def f141:ai:=by
 have:aC 141 Tryz.f144=some ?F:=by conv=>lhs;reduce;try dsimp
 exact ?F
def f142:ai:=by
 have:aC 142 Tryz.f145=some ?F:=by conv=>lhs;reduce;try dsimp
 exact ?F
def f143:ai:=by
 have:aC 143 Tryz.f146=some ?F:=by conv=>lhs;reduce;try dsimp
 exact ?F
def f144:ai:=by
 have:aC 144 Tryz.f147=some ?F:=by conv=>lhs;reduce;try dsimp
 exact ?F
def f147:ai:=by
 have:aC 147 Tryz.f150=some ?F:=by conv=>lhs;reduce;try dsimp
 exact ?F
def f149:ai:=by
 have:aC 149 Tryz.f152=some ?F:=by conv=>lhs;reduce;try dsimp
 exact ?F
def f150:ai:=by
 have:aC 150 Tryz.f153=some ?F:=by conv=>lhs;reduce;try dsimp
 exact ?F
def f151:ai:=by
 have:aC 151 Tryz.f154=some ?F:=by conv=>lhs;reduce;try dsimp
 exact ?F
def f152:ai:=by
 have:aC 152 Tryz.f155=some ?F:=by conv=>lhs;reduce;try dsimp
 exact ?F
def f153:ai:=by
 have:aC 153 Tryz.f156=some ?F:=by conv=>lhs;reduce;try dsimp
 exact ?F
def f154:ai:=by
 have:aC 154 Tryz.f157=some ?F:=by conv=>lhs;reduce;try dsimp
 exact ?F
def f155:ai:=by
 have:aC 155 Tryz.f158=some ?F:=by conv=>lhs;reduce;try dsimp
 exact ?F
def f156:ai:=by
 have:aC 156 Tryz.f159=some ?F:=by conv=>lhs;reduce;try dsimp
 exact ?F
def f157:ai:=by
 have:aC 157 Tryz.f160=some ?F:=by conv=>lhs;reduce;try dsimp
 exact ?F
def f158:ai:=by
 have:aC 158 Tryz.f161=some ?F:=by conv=>lhs;reduce;try dsimp
 exact ?F
def f160:ai:=by
 have:aC 160 Tryz.f163=some ?F:=by conv=>lhs;reduce;try dsimp
 exact ?F
def f163:ai:=by
 have:aC 163 Tryz.f166=some ?F:=by conv=>lhs;reduce;try dsimp
 exact ?F
def f167:ai:=by
 have:aC 167 Tryz.f91=some ?F:=by conv=>lhs;reduce;try dsimp
 exact ?F
def f168:ai:=by
 have:aC 168 Tryz.f93=some ?F:=by conv=>lhs;reduce;try dsimp
 exact ?F
def SS:TF:=[(85,f85),(86,f86),(87,f87),(88,f88),(89,f89),(90,f90),(91,f91),(92,f92),(93,f93),(94,f94),(95,f95),(97,f97),(98,f98),(99,f99),(100,f100),(101,f101),(106,f106),(107,f107),(108,f108),(109,f109),(110,f110),(111,f111),(112,f112),(113,f113),(114,f114),(115,f115),(116,f116),(117,f117),(118,f118),(119,f119),(121,f121),(122,f122),(123,f123),(124,f124),(125,f125),(126,f126),(127,f127),(128,f128),(130,f130),(131,f131),(133,f133),(134,f134),(135,f135),(136,f136),(137,f137),(138,f138),(139,f139),(140,f140),(141,f141),(142,f142),(143,f143),(144,f144),(147,f147),(149,f149),(150,f150),(151,f151),(152,f152),(153,f153),(154,f154),(155,f155),(156,f156),(157,f157),(158,f158),(160,f160),(163,f163),(167,f167),(168,f168)]
theorem afe:vN SS:=by
 unfold SS
 repeat refine ET (by kernel_rfl) ?_
 exact EU
end Fi.S
