import Derived.Test.YtkekcmgkpdkieaaGreatDoorSCode0
namespace Fi.S
open Go Fi Go.Proofs
set_option maxHeartbeats 8000000
set_option maxRecDepth 1000000
def f87:=aG 87 Tryz.f140 _
def f88:=aG 88 Tryz.f141 _
def f89:=aG 89 Tryz.f135 _
def f90:=aG 90 Tryz.f142 _
def f91:=aG 91 Tryz.f143 _
def f92:=aG 92 Tryz.f144 _
def f93:=aG 93 Tryz.f145 _
def f94:=aG 94 Tryz.f103 _
def f95:=aG 95 Tryz.f230 _
def f97:=aG 97 Tryz.f131 _
def f98:=aG 98 Tryz.f132 _
def f99:=aG 99 Tryz.f133 _
def f100:=aG 100 Tryz.f154 _
def f101:=aG 101 Tryz.f139 _
def f106:=aG 106 Tryz.f136 _
def f107:=aG 107 Tryz.f137 _
def f108:=aG 108 Tryz.f170 _
def f109:=aG 109 Tryz.f171 _
def f110:=aG 110 Tryz.f172 _
def f111:=aG 111 Tryz.f173 _
def f112:=aG 112 Tryz.f174 _
def f113:=aG 113 Tryz.f175 _
def f114:=aG 114 Tryz.f176 _
def f115:=aG 115 Tryz.f177 _
def f116:=aG 116 Tryz.f178 _
def f117:=aG 117 Tryz.f179 _
def f118:=aG 118 Tryz.f180 _
def f119:=aG 119 Tryz.f181 _
def f121:=aG 121 Tryz.f183 _
def f122:=aG 122 Tryz.f184 _
def f123:=aG 123 Tryz.f185 _
def f124:=aG 124 Tryz.f186 _
def f125:=aG 125 Tryz.f187 _
def f126:=aG 126 Tryz.f188 _
def f127:=aG 127 Tryz.f189 _
def f128:=aG 128 Tryz.f190 _
def f130:=aG 130 Tryz.f192 _
def f131:=aG 131 Tryz.f193 _
def f133:=aG 133 Tryz.f195 _
def f134:=aG 134 Tryz.f196 _
def f135:=aG 135 Tryz.f197 _
def f136:=aG 136 Tryz.f198 _
def f137:=aG 137 Tryz.f199 _
def f138:=aG 138 Tryz.f200 _
def f139:=aG 139 Tryz.f201 _
def f140:=aG 140 Tryz.f202 _
def f141:=aG 141 Tryz.f203 _
def f142:=aG 142 Tryz.f204 _
def f143:=aG 143 Tryz.f205 _
def f144:=aG 144 Tryz.f206 _
def f147:=aG 147 Tryz.f209 _
def f149:=aG 149 Tryz.f211 _
def f150:=aG 150 Tryz.f212 _
def f151:=aG 151 Tryz.f213 _
def f152:=aG 152 Tryz.f214 _
def f153:=aG 153 Tryz.f215 _
def f154:=aG 154 Tryz.f216 _
def f155:=aG 155 Tryz.f217 _
def f156:=aG 156 Tryz.f218 _
def f157:=aG 157 Tryz.f219 _
def f158:=aG 158 Tryz.f220 _
def f160:=aG 160 Tryz.f222 _
def f163:=aG 163 Tryz.f225 _
def f167:=aG 167 Tryz.f152 _
def f168:=aG 168 Tryz.f153 _
def f169:=aG 169 Tryz.f166 _
def f170:=aG 170 Tryz.f164 _
def f171:=aG 171 Tryz.f165 _
def f172:=aG 172 Tryz.f163 _
def VG:TF:=[(87,f87),(88,f88),(89,f89),(90,f90),(91,f91),(92,f92),(93,f93),(94,f94),(95,f95),(97,f97),(98,f98),(99,f99),(100,f100),(101,f101),(106,f106),(107,f107),(108,f108),(109,f109),(110,f110),(111,f111),(112,f112),(113,f113),(114,f114),(115,f115),(116,f116),(117,f117),(118,f118),(119,f119),(121,f121),(122,f122),(123,f123),(124,f124),(125,f125),(126,f126),(127,f127),(128,f128),(130,f130),(131,f131),(133,f133),(134,f134),(135,f135),(136,f136),(137,f137),(138,f138),(139,f139),(140,f140),(141,f141),(142,f142),(143,f143),(144,f144),(147,f147),(149,f149),(150,f150),(151,f151),(152,f152),(153,f153),(154,f154),(155,f155),(156,f156),(157,f157),(158,f158),(160,f160),(163,f163),(167,f167),(168,f168),(169,f169),(170,f170),(171,f171),(172,f172)]
theorem ah1:wY VG:=by
 unfold VG
 repeat refine Gj (by kernel_rfl) ?_
 exact Gl
end Fi.S
