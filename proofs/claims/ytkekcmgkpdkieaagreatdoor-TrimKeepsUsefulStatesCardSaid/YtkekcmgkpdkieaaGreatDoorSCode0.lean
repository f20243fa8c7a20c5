import Derived.Test.YtkekcmgkpdkieaaGreatDoorFiE
import Derived.Test.YtkekcmgkpdkieaaGreatDoorChecked
namespace Fi.S
open Go Fi Go.Proofs
set_option maxHeartbeats 8000000
set_option maxRecDepth 1000000

def no:List Nat:=[0,1,223,224,221,285,263,314,315,316,317,318,319,320,321,322,323,324,325,326,327,328,329,330,331,332,333,334,335,336,337,338,339,340,341,342]
def tab:List Nat:=[0,1,2,1008,1501,1502,1503,15,1028,46,1031,1029,1024,1018,1020,1011,1027,12,1022,1023,1504,1506,1521,1505,1520,1014,1530,16,1075,1026,1076,1062,1063,1064,28,1040,1041,1054,29,1012,20,38,1069,1070,34,32,74,1074,39,40,35,19,21,1060,30,1061,59,1507,1508,1522,1044,1511,1523,33,1046,1047,1531,1532,47,48,49,50,51,31,1065,1066,1067,1068,1098,14,26,1100,1101,1102,1103,1104,66,18,27,56,77,1109,255,71,72,73,70,78,53,54,55,57,58,94,1509,1510,1524,1525,1043,1088,1089,1512,1090,1533,1534,84,85,86,67,68,69,1105,1106,1107,1108,41,42,43,45,64,1138,97,98,99,65,89,106,107,282,101,87,88,90,91,92,93,1526,1126,1513,1535,1536,1537,167,168,100,1139,79,80,81,82,83,1208,1209,172,170,171,169,173,174,62,108,109,110,111,112,113,114,115,116,117,118,119,120,121,122,123,124,125,126,127,128,129,130,131,132,133,134,135,136,137,138,139,140,141,142,143,144,145,146,147,148,149,150,151,152,153,154,155,156,157,158,159,160,161,162,163,164,165,166,1254,95,180,181,182,183,184,185,186,187,188,189,190,191,192,193,194,195,196,197,198,199,200,103,104,201,105,202,203,204,205,206,207,208,209,210,211,212,213,214,215,216,217,218,177,1298,225,226,227,228,229,230,231,232,233,234,235,76,236,237,238,239,240,241,242,243,244,245,246,247,248,249,250,251,178,179,252,253,254,256,257,258,176,220,259,260,75,261,222,266,267,268,269,270,271,272,273,274,275,276,277,278,279,280,281,223,224,283,284,219,221,262,285,102,263,264,265,287,288,289,290,291,292,293,294,295,296,297,298,299,300,301,302,303,175,286,304,305,306,307,308,309,310,311,312,313,314,315,316,317,318,319,320,321,322,323,324,325,326,327,328,329,330,331,332,333,334,335,336,337,338,339,340,341,342,343]
def twins:List Nat:=[3064,3024,3012,3507,3537]
def gid:FuncId->Option Nat:=ab9 tab
def sig:Nat->Option FuncId:=zo tab twins

def tL (f:FuncId):Bool:=[310,81,82,83,130,161,162,229,274,104,105].any (Nat.beq f ·)

abbrev st0 (v:List FV)(L:List ai):St:={vars:=v,base:=[],loc:=L,aQ:=false}

def kl:List (Nat × List Nat)->Nat->List Nat
 | [],_=>[]
 | (a,l)::r,id=>bif Nat.beq id a then l else kl r id
def yls:List (Nat × List Nat):=[(1506,[3507]),(3507,[])]
def yl:List (Nat × List Nat)->Nat->List Nat
 | [],_=>[]
 | c::r,g=>bif Nat.beq g c.1 then c.2 else yl r g
noncomputable def ac3 (g:Nat) (F:Func):Option bI:=match lvs F with
 | some x=>fo Tryz.prog {gid:=Zq tab (yl yls g),vars:=x.1,kills:=kl x.2,ntmps:=F.ntmps,tL:=tL,isRef:=[258,1101,1102,1138,1208,1209,1254,1298,1509,1510,3507].any (Nat.beq g ·),Y3:=[43].any (Nat.beq g ·),far:=[1508,1512,1523].any (Nat.beq g ·)} F
 | none=>none
abbrev aG (g:Nat)(F:Func)(x:bI)(_:ac3 g F=some x:=by conv=>lhs;reduce;try dsimp):bI:=x
noncomputable def VJ (g:Nat):Option bI:=match sig g with
 | some j=>match Tryz.prog.funcs[j]? with
  | some F=>ac3 g F
  | none=>none
 | none=>none
abbrev TF:=List (Nat × bI)
def wY:TF->Prop
 | []=>True
 | p::r=>VJ p.1=some p.2/\wY r
theorem Gj {p:Nat × bI}{r:TF}(h:VJ p.1=some p.2)(t:wY r):wY (p::r):=⟨h,t⟩
theorem Gl:wY []:=trivial
def look:TF->Nat->Option bI
 | [],_=>none
 | p::r,g=>bif Nat.beq g p.1 then some p.2 else look r g
theorem look_ok:∀ {l:TF},wY l->∀ {g F},look l g=some F->VJ g=some F
 | [],_,_,_,h=>by cases h
 | p::r,ho,g,F,h=>by
  unfold look at h;cases hb:Nat.beq g p.1 with
  | true=>rw[hb]at h;cases h;rw[Qk1 hb];exact ho.1
  | false=>rw[hb]at h;exact look_ok ho.2 h
def c1098:Cx:={gid:=gid,vars:=[0,2,4],kills:=fun id=>bif Nat.beq id 0 then [1] else bif Nat.beq id 2 then [0,2] else bif Nat.beq id 3 then [0,2] else [],ntmps:=8,tL:=tL}
def c1100:Cx:={gid:=gid,vars:=[0,2,4],kills:=fun id=>bif Nat.beq id 0 then [1] else bif Nat.beq id 2 then [0,2] else bif Nat.beq id 3 then [0,2] else [],ntmps:=8,tL:=tL,isRef:=true}
end Fi.S
