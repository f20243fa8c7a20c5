import Derived.Test.YtbbogkfadofneaaGreatDoorSCode0
namespace Fi.S
open Go Fi Go.Proofs
set_option maxHeartbeats 8000000
set_option maxRecDepth 1000000
def f83:=aD 83 Tryz.f154 _
def f84:=aD 84 Tryz.f87 _
def f85:=aD 85 Tryz.f88 _
def f86:=aD 86 Tryz.f104 _
def f87:=aD 87 Tryz.f127 _
def f88:=aD 88 Tryz.f128 _
def f89:=aD 89 Tryz.f89 _
def f90:=aD 90 Tryz.f129 _
def f91:=aD 91 Tryz.f130 _
def f92:=aD 92 Tryz.f131 _
def f93:=aD 93 Tryz.f132 _
def f95:=aD 95 Tryz.f227 _
def f97:=aD 97 Tryz.f136 _
def f98:=aD 98 Tryz.f134 _
def f99:=aD 99 Tryz.f147 _
def f100:=aD 100 Tryz.f148 _
def f101:=aD 101 Tryz.f226 _
def f106:=aD 106 Tryz.f90 _
def f107:=aD 107 Tryz.f91 _
def f108:=aD 108 Tryz.f166 _
def f109:=aD 109 Tryz.f167 _
def f110:=aD 110 Tryz.f168 _
def f111:=aD 111 Tryz.f169 _
def f112:=aD 112 Tryz.f170 _
def f113:=aD 113 Tryz.f171 _
def f114:=aD 114 Tryz.f172 _
def f115:=aD 115 Tryz.f173 _
def f116:=aD 116 Tryz.f174 _
def f117:=aD 117 Tryz.f175 _
def f118:=aD 118 Tryz.f176 _
def f119:=aD 119 Tryz.f177 _
def f121:=aD 121 Tryz.f179 _
def f122:=aD 122 Tryz.f180 _
def f123:=aD 123 Tryz.f181 _
def f124:=aD 124 Tryz.f182 _
def f125:=aD 125 Tryz.f183 _
def f126:=aD 126 Tryz.f184 _
def f127:=aD 127 Tryz.f185 _
def f128:=aD 128 Tryz.f186 _
def f130:=aD 130 Tryz.f188 _
def f131:=aD 131 Tryz.f189 _
def f133:=aD 133 Tryz.f191 _
def f134:=aD 134 Tryz.f192 _
def f135:=aD 135 Tryz.f193 _
def f136:=aD 136 Tryz.f194 _
def f137:=aD 137 Tryz.f195 _
def f138:=aD 138 Tryz.f196 _
def f139:=aD 139 Tryz.f197 _
def f140:=aD 140 Tryz.f198 _
def f141:=aD 141 Tryz.f199 _
def f142:=aD 142 Tryz.f200 _
def f143:=aD 143 Tryz.f201 _
def f144:=aD 144 Tryz.f202 _
def f147:=aD 147 Tryz.f205 _
def f149:=aD 149 Tryz.f207 _
def f150:=aD 150 Tryz.f208 _
def f151:=aD 151 Tryz.f209 _
def f152:=aD 152 Tryz.f210 _
def f153:=aD 153 Tryz.f211 _
def f154:=aD 154 Tryz.f212 _
def f155:=aD 155 Tryz.f213 _
def f156:=aD 156 Tryz.f214 _
def f157:=aD 157 Tryz.f215 _
def f158:=aD 158 Tryz.f216 _
def f160:=aD 160 Tryz.f218 _
def f163:=aD 163 Tryz.f221 _
def f167:=aD 167 Tryz.f133 _
def f168:=aD 168 Tryz.f135 _
def f169:=aD 169 Tryz.f140 _
def f170:=aD 170 Tryz.f137 _
def f171:=aD 171 Tryz.f138 _
def f172:=aD 172 Tryz.f139 _
def f173:=aD 173 Tryz.f163 _
def f174:=aD 174 Tryz.f164 _
def f180:=aD 180 Tryz.f228 _
def f181:=aD 181 Tryz.f229 _
def Xm:TF:=[(83,f83),(84,f84),(85,f85),(86,f86),(87,f87),(88,f88),(89,f89),(90,f90),(91,f91),(92,f92),(93,f93),(95,f95),(97,f97),(98,f98),(99,f99),(100,f100),(101,f101),(106,f106),(107,f107),(108,f108),(109,f109),(110,f110),(111,f111),(112,f112),(113,f113),(114,f114),(115,f115),(116,f116),(117,f117),(118,f118),(119,f119),(121,f121),(122,f122),(123,f123),(124,f124),(125,f125),(126,f126),(127,f127),(128,f128),(130,f130),(131,f131),(133,f133),(134,f134),(135,f135),(136,f136),(137,f137),(138,f138),(139,f139),(140,f140),(141,f141),(142,f142),(143,f143),(144,f144),(147,f147),(149,f149),(150,f150),(151,f151),(152,f152),(153,f153),(154,f154),(155,f155),(156,f156),(157,f157),(158,f158),(160,f160),(163,f163),(167,f167),(168,f168),(169,f169),(170,f170),(171,f171),(172,f172),(173,f173),(174,f174),(180,f180),(181,f181)]
theorem ajz:xR Xm:=by
 unfold Xm
 repeat refine HV (by kernel_rfl) ?_
 exact HY
end Fi.S
