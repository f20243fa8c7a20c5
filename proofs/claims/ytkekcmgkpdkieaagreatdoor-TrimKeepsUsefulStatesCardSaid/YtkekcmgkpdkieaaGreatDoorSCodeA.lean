import Derived.Test.YtkekcmgkpdkieaaGreatDoorSCode0
namespace Fi.S
open Go Fi Go.Proofs
set_option maxHeartbeats 8000000
set_option maxRecDepth 1000000
def f12:=aG 12 Tryz.f17 _
def f14:=aG 14 Tryz.f79 _
def f18:=aG 18 Tryz.f87 _
def f19:=aG 19 Tryz.f51 _
def f20:=aG 20 Tryz.f40 _
def f26:=aG 26 Tryz.f80 _
def f27:=aG 27 Tryz.f88 _
def f28:=aG 28 Tryz.f34 _
def f29:=aG 29 Tryz.f38 _
def f30:=aG 30 Tryz.f54 _
def f31:=aG 31 Tryz.f73 _
def f32:=aG 32 Tryz.f45 _
def f33:=aG 33 Tryz.f63 _
def f34:=aG 34 Tryz.f44 _
def f35:=aG 35 Tryz.f50 _
def f38:=aG 38 Tryz.f41 _
def f39:=aG 39 Tryz.f48 _
def f40:=aG 40 Tryz.f49 _
def f41:=aG 41 Tryz.f125 _
def f42:=aG 42 Tryz.f126 _
def f43:=aG 43 Tryz.f127 _
def f45:=aG 45 Tryz.f128 _
def f48:=aG 48 Tryz.f69 _
def f49:=aG 49 Tryz.f70 _
def f53:=aG 53 Tryz.f98 _
def f54:=aG 54 Tryz.f99 _
def f55:=aG 55 Tryz.f100 _
def f56:=aG 56 Tryz.f89 _
def f59:=aG 59 Tryz.f56 _
def f62:=aG 62 Tryz.f169 _
def f64:=aG 64 Tryz.f129 _
def f65:=aG 65 Tryz.f134 _
def f66:=aG 66 Tryz.f86 _
def f67:=aG 67 Tryz.f118 _
def f68:=aG 68 Tryz.f119 _
def f69:=aG 69 Tryz.f120 _
def f70:=aG 70 Tryz.f96 _
def f71:=aG 71 Tryz.f93 _
def f72:=aG 72 Tryz.f94 _
def f73:=aG 73 Tryz.f95 _
def f74:=aG 74 Tryz.f46 _
def f77:=aG 77 Tryz.f90 _
def f78:=aG 78 Tryz.f97 _
def f79:=aG 79 Tryz.f156 _
def f80:=aG 80 Tryz.f157 _
def f81:=aG 81 Tryz.f158 _
def f82:=aG 82 Tryz.f159 _
def f83:=aG 83 Tryz.f160 _
def f84:=aG 84 Tryz.f115 _
def f85:=aG 85 Tryz.f116 _
def f86:=aG 86 Tryz.f117 _
def VF:TF:=[(12,f12),(14,f14),(18,f18),(19,f19),(20,f20),(26,f26),(27,f27),(28,f28),(29,f29),(30,f30),(31,f31),(32,f32),(33,f33),(34,f34),(35,f35),(38,f38),(39,f39),(40,f40),(41,f41),(42,f42),(43,f43),(45,f45),(48,f48),(49,f49),(53,f53),(54,f54),(55,f55),(56,f56),(59,f59),(62,f62),(64,f64),(65,f65),(66,f66),(67,f67),(68,f68),(69,f69),(70,f70),(71,f71),(72,f72),(73,f73),(74,f74),(77,f77),(78,f78),(79,f79),(80,f80),(81,f81),(82,f82),(83,f83),(84,f84),(85,f85),(86,f86)]
theorem ah0:wY VF:=by
 unfold VF
 repeat refine Gj (by kernel_rfl) ?_
 exact Gl
end Fi.S
