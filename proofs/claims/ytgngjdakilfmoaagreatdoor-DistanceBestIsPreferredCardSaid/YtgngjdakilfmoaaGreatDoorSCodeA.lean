import Derived.Test.YtgngjdakilfmoaaGreatDoorSCode0
namespace Fi.S
open Go Fi Go.Proofs
set_option maxHeartbeats 8000000
set_option maxRecDepth 1000000
def f12:=aG 12 Tryz.f26 _
def f13:=aG 13 Tryz.f35 _
def f14:=aG 14 Tryz.f87 _
def f16:=aG 16 Tryz.f63 _
def f18:=aG 18 Tryz.f106 _
def f19:=aG 19 Tryz.f48 _
def f20:=aG 20 Tryz.f43 _
def f21:=aG 21 Tryz.f11 _
def f24:=aG 24 Tryz.f67 _
def f25:=aG 25 Tryz.f14 _
def f26:=aG 26 Tryz.f66 _
def f28:=aG 28 Tryz.f37 _
def f29:=aG 29 Tryz.f77 _
def f31:=aG 31 Tryz.f68 _
def f34:=aG 34 Tryz.f36 _
def f35:=aG 35 Tryz.f42 _
def f38:=aG 38 Tryz.f84 _
def f39:=aG 39 Tryz.f57 _
def f40:=aG 40 Tryz.f58 _
def f41:=aG 41 Tryz.f69 _
def f42:=aG 42 Tryz.f70 _
def f43:=aG 43 Tryz.f71 _
def f44:=aG 44 Tryz.f72 _
def f45:=aG 45 Tryz.f125 _
def f46:=aG 46 Tryz.f10 _
def f47:=aG 47 Tryz.f95 _
def f48:=aG 48 Tryz.f85 _
def f49:=aG 49 Tryz.f90 _
def f50:=aG 50 Tryz.f96 _
def f51:=aG 51 Tryz.f97 _
def f53:=aG 53 Tryz.f38 _
def f54:=aG 54 Tryz.f89 _
def f55:=aG 55 Tryz.f44 _
def f56:=aG 56 Tryz.f41 _
def f57:=aG 57 Tryz.f39 _
def f58:=aG 58 Tryz.f40 _
def f62:=aG 62 Tryz.f124 _
def f64:=aG 64 Tryz.f102 _
def f66:=aG 66 Tryz.f113 _
def f67:=aG 67 Tryz.f103 _
def f68:=aG 68 Tryz.f104 _
def f69:=aG 69 Tryz.f105 _
def f71:=aG 71 Tryz.f73 _
def f72:=aG 72 Tryz.f74 _
def f73:=aG 73 Tryz.f75 _
def f74:=aG 74 Tryz.f76 _
def f77:=aG 77 Tryz.f123 _
def YQ:TF:=[(12,f12),(13,f13),(14,f14),(16,f16),(18,f18),(19,f19),(20,f20),(21,f21),(24,f24),(25,f25),(26,f26),(28,f28),(29,f29),(31,f31),(34,f34),(35,f35),(38,f38),(39,f39),(40,f40),(41,f41),(42,f42),(43,f43),(44,f44),(45,f45),(46,f46),(47,f47),(48,f48),(49,f49),(50,f50),(51,f51),(53,f53),(54,f54),(55,f55),(56,f56),(57,f57),(58,f58),(62,f62),(64,f64),(66,f66),(67,f67),(68,f68),(69,f69),(71,f71),(72,f72),(73,f73),(74,f74),(77,f77)]
theorem alx:yI YQ:=by
 unfold YQ
 repeat refine Jb (by kernel_rfl) ?_
 exact Jc
end Fi.S
