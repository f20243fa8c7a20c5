import Derived.Test.YtkekcmgkpdkieaaGreatDoorSCode0
namespace Fi.S
open Go Fi Go.Proofs
set_option maxHeartbeats 8000000
set_option maxRecDepth 1000000
def f79:=aH 79 Tryz.f156 _
def f80:=aH 80 Tryz.f157 _
def f81:=aH 81 Tryz.f158 _
def f82:=aH 82 Tryz.f159 _
def f83:=aH 83 Tryz.f160 _
def f84:=aH 84 Tryz.f115 _
def f85:=aH 85 Tryz.f116 _
def f86:=aH 86 Tryz.f117 _
def f87:=aH 87 Tryz.f140 _
def f88:=aH 88 Tryz.f141 _
def f89:=aH 89 Tryz.f135 _
def f90:=aH 90 Tryz.f142 _
def f91:=aH 91 Tryz.f143 _
def f92:=aH 92 Tryz.f144 _
def f93:=aH 93 Tryz.f145 _
def f95:=aH 95 Tryz.f230 _
def f97:=aH 97 Tryz.f131 _
def f98:=aH 98 Tryz.f132 _
def f99:=aH 99 Tryz.f133 _
def f100:=aH 100 Tryz.f154 _
def f101:=aH 101 Tryz.f139 _
def f106:=aH 106 Tryz.f136 _
def f107:=aH 107 Tryz.f137 _
def f108:=aH 108 Tryz.f170 _
def f109:=aH 109 Tryz.f171 _
def f110:=aH 110 Tryz.f172 _
def f111:=aH 111 Tryz.f173 _
def f112:=aH 112 Tryz.f174 _
def f113:=aH 113 Tryz.f175 _
def f114:=aH 114 Tryz.f176 _
def f115:=aH 115 Tryz.f177 _
def f116:=aH 116 Tryz.f178 _
def f117:=aH 117 Tryz.f179 _
def f118:=aH 118 Tryz.f180 _
def f119:=aH 119 Tryz.f181 _
def f121:=aH 121 Tryz.f183 _
def f122:=aH 122 Tryz.f184 _
def f123:=aH 123 Tryz.f185 _
def f124:=aH 124 Tryz.f186 _
def f125:=aH 125 Tryz.f187 _
def f126:=aH 126 Tryz.f188 _
def f127:=aH 127 Tryz.f189 _
def f128:=aH 128 Tryz.f190 _
def f130:=aH 130 Tryz.f192 _
def f131:=aH 131 Tryz.f193 _
def f133:=aH 133 Tryz.f195 _
def f134:=aH 134 Tryz.f196 _
def f135:=aH 135 Tryz.f197 _
def f136:=aH 136 Tryz.f198 _
def f137:=aH 137 Tryz.f199 _
def f138:=aH 138 Tryz.f200 _
def f139:=aH 139 Tryz.f201 _
def f140:=aH 140 Tryz.f202 _
def f141:=aH 141 Tryz.f203 _
def f142:=aH 142 Tryz.f204 _
def f143:=aH 143 Tryz.f205 _
def f144:=aH 144 Tryz.f206 _
def f147:=aH 147 Tryz.f209 _
def f149:=aH 149 Tryz.f211 _
def f150:=aH 150 Tryz.f212 _
def f151:=aH 151 Tryz.f213 _
def f152:=aH 152 Tryz.f214 _
def f153:=aH 153 Tryz.f215 _
def f154:=aH 154 Tryz.f216 _
def f155:=aH 155 Tryz.f217 _
def f156:=aH 156 Tryz.f218 _
def f157:=aH 157 Tryz.f219 _
def f158:=aH 158 Tryz.f220 _
def f160:=aH 160 Tryz.f222 _
def f163:=aH 163 Tryz.f225 _
def f167:=aH 167 Tryz.f152 _
def Y2:TF:=[(79,f79),(80,f80),(81,f81),(82,f82),(83,f83),(84,f84),(85,f85),(86,f86),(87,f87),(88,f88),(89,f89),(90,f90),(91,f91),(92,f92),(93,f93),(95,f95),(97,f97),(98,f98),(99,f99),(100,f100),(101,f101),(106,f106),(107,f107),(108,f108),(109,f109),(110,f110),(111,f111),(112,f112),(113,f113),(114,f114),(115,f115),(116,f116),(117,f117),(118,f118),(119,f119),(121,f121),(122,f122),(123,f123),(124,f124),(125,f125),(126,f126),(127,f127),(128,f128),(130,f130),(131,f131),(133,f133),(134,f134),(135,f135),(136,f136),(137,f137),(138,f138),(139,f139),(140,f140),(141,f141),(142,f142),(143,f143),(144,f144),(147,f147),(149,f149),(150,f150),(151,f151),(152,f152),(153,f153),(154,f154),(155,f155),(156,f156),(157,f157),(158,f158),(160,f160),(163,f163),(167,f167)]
theorem al3:ze Y2:=by
 unfold Y2
 repeat refine Jf (by kernel_rfl) ?_
 exact Jg
end Fi.S
