import Derived.Test.YtgngjdakilfmoaaGreatDoorSCode0
namespace Fi.S
open Go Fi Go.Proofs
set_option maxHeartbeats 8000000
set_option maxRecDepth 1000000
def f78:=aG 78 Tryz.f93 _
def f79:=aG 79 Tryz.f107 _
def f80:=aG 80 Tryz.f108 _
def f81:=aG 81 Tryz.f109 _
def f82:=aG 82 Tryz.f110 _
def f83:=aG 83 Tryz.f111 _
def f84:=aG 84 Tryz.f83 _
def f85:=aG 85 Tryz.f78 _
def f86:=aG 86 Tryz.f79 _
def f87:=aG 87 Tryz.f81 _
def f88:=aG 88 Tryz.f82 _
def f89:=aG 89 Tryz.f80 _
def f90:=aG 90 Tryz.f129 _
def f91:=aG 91 Tryz.f130 _
def f92:=aG 92 Tryz.f131 _
def f93:=aG 93 Tryz.f86 _
def f95:=aG 95 Tryz.f204 _
def f97:=aG 97 Tryz.f114 _
def f98:=aG 98 Tryz.f121 _
def f99:=aG 99 Tryz.f115 _
def f100:=aG 100 Tryz.f142 _
def f101:=aG 101 Tryz.f112 _
def f106:=aG 106 Tryz.f202 _
def f107:=aG 107 Tryz.f203 _
def f108:=aG 108 Tryz.f143 _
def f109:=aG 109 Tryz.f144 _
def f110:=aG 110 Tryz.f145 _
def f111:=aG 111 Tryz.f146 _
def f112:=aG 112 Tryz.f147 _
def f113:=aG 113 Tryz.f148 _
def f114:=aG 114 Tryz.f149 _
def f115:=aG 115 Tryz.f150 _
def f116:=aG 116 Tryz.f151 _
def f117:=aG 117 Tryz.f152 _
def f118:=aG 118 Tryz.f153 _
def f119:=aG 119 Tryz.f154 _
def f121:=aG 121 Tryz.f156 _
def f122:=aG 122 Tryz.f157 _
def f123:=aG 123 Tryz.f158 _
def f124:=aG 124 Tryz.f159 _
def f125:=aG 125 Tryz.f160 _
def f126:=aG 126 Tryz.f161 _
def f127:=aG 127 Tryz.f162 _
def f128:=aG 128 Tryz.f163 _
def f130:=aG 130 Tryz.f165 _
def f131:=aG 131 Tryz.f166 _
def f133:=aG 133 Tryz.f168 _
def f134:=aG 134 Tryz.f169 _
def f135:=aG 135 Tryz.f170 _
def f136:=aG 136 Tryz.f171 _
def f137:=aG 137 Tryz.f172 _
def f138:=aG 138 Tryz.f173 _
def f139:=aG 139 Tryz.f174 _
def f140:=aG 140 Tryz.f175 _
def f141:=aG 141 Tryz.f176 _
def f142:=aG 142 Tryz.f177 _
def f143:=aG 143 Tryz.f178 _
def f144:=aG 144 Tryz.f179 _
def f147:=aG 147 Tryz.f182 _
def f149:=aG 149 Tryz.f184 _
def f150:=aG 150 Tryz.f185 _
def f151:=aG 151 Tryz.f186 _
def f152:=aG 152 Tryz.f187 _
def f153:=aG 153 Tryz.f188 _
def f154:=aG 154 Tryz.f189 _
def f155:=aG 155 Tryz.f190 _
def f156:=aG 156 Tryz.f191 _
def f157:=aG 157 Tryz.f192 _
def f158:=aG 158 Tryz.f193 _
def f160:=aG 160 Tryz.f195 _
def YR:TF:=[(78,f78),(79,f79),(80,f80),(81,f81),(82,f82),(83,f83),(84,f84),(85,f85),(86,f86),(87,f87),(88,f88),(89,f89),(90,f90),(91,f91),(92,f92),(93,f93),(95,f95),(97,f97),(98,f98),(99,f99),(100,f100),(101,f101),(106,f106),(107,f107),(108,f108),(109,f109),(110,f110),(111,f111),(112,f112),(113,f113),(114,f114),(115,f115),(116,f116),(117,f117),(118,f118),(119,f119),(121,f121),(122,f122),(123,f123),(124,f124),(125,f125),(126,f126),(127,f127),(128,f128),(130,f130),(131,f131),(133,f133),(134,f134),(135,f135),(136,f136),(137,f137),(138,f138),(139,f139),(140,f140),(141,f141),(142,f142),(143,f143),(144,f144),(147,f147),(149,f149),(150,f150),(151,f151),(152,f152),(153,f153),(154,f154),(155,f155),(156,f156),(157,f157),(158,f158),(160,f160)]
theorem aly:yI YR:=by
 unfold YR
 repeat refine Jb (by kernel_rfl) ?_
 exact Jc
end Fi.S
