import Derived.Test.YtbijabmjbgplbaaGreatDoorProg
import Derived.Test.YtbijabmjbgplbaaGreatDoorQ2
import Derived.Test.YtbijabmjbgplbaaGreatDoorQ4
import Derived.KernelRfl
set_option linter.unusedVariables false
set_option linter.unusedSimpArgs false
namespace Go.Proofs.YtbijabmjbgplbaaGreatDoor
namespace Md
open G
abbrev q0:CS:=(.leaf (.val .str))
abbrev q1:SH:=.one q0
abbrev q2:Kp:=⟨[(0,q1),(1,q1)],[],[],[],0,[.o .str,.o .str]⟩
abbrev q3:CS:=(.leaf (.val .bool))
abbrev q4:SH:=.one q3
abbrev q5:RS:=.one (q4)
abbrev q6:List D:=[.o .bool]
abbrev q7:Alt:=⟨q5,[],[],0,q6⟩
abbrev q8:Kp:=⟨[(0,.one (.leaf (.val .u8)))],[],[],[],0,[.o .u8]⟩
abbrev q9:CS:=(.leaf (.val .int))
abbrev q10:SH:=.one q9
abbrev q11:RS:=.one (q10)
abbrev q12:Alt:=⟨q11,[],[],0,[.o .int]⟩
abbrev q13:SH:=.one (.leaf .nat)
abbrev q14:Kp:=⟨[(5,q13)],[],[],[],3000,[.n]⟩
abbrev q15:Kp:=⟨[(5,q13)],[],[],[],3500,[.n]⟩
abbrev q16:Kp:=⟨[(0,q1)],[],[],[],0,[.o .str]⟩
abbrev q17:SH:=.ag [.part (.st .Token)]
abbrev q18:Alt:=⟨.tu [q17,q10,q10],[],[],0,[.o (.st .Token),.o .int,.o .int]⟩
abbrev q19:CS:=(.leaf (.row 4000))
abbrev q20:SH:=.one q19
abbrev q21:BS:=.row 5 .u8
abbrev q22:List D:=[.o .int,.o (.sl .u8)]
abbrev q23:Kp:=⟨[],[],[],[],3500,[]⟩
abbrev q24:SH:=.one (.leaf (.row 0))
abbrev q25:RS:=.tu [q24,q10,q10]
abbrev q26:BS:=.row 140 (.st .Token)
abbrev q27:CS:=(.leaf (.row 5000))
abbrev q28:SH:=.one q27
abbrev q29:CS:=(.leaf (.row 5500))
abbrev q30:SH:=.one (.leaf (.ptr 0 0))
abbrev q31:CS:=(.leaf (.row 1))
abbrev q32:BS:=.box [.part (.st .zn),.cell q31]
abbrev q33:BS:=.rd (q32)
abbrev q34:BS:=.row 206 (.st .Node)
abbrev q35:BS:=.rd (q34)
abbrev q36:List D:=[.o (.st .zn),.o (.sl (.st .Node))]
abbrev q37:Kp:=⟨[(0,q30)],[(0,q33),(1,q35)],[],[],2,q36⟩
abbrev q38:Alt:=⟨q5,[],[],2,q6⟩
abbrev q39:List D:=[.o .int,.o (.st .zn),.o (.sl (.st .Node))]
abbrev q40:RS:=.one (q17)
abbrev q41:List D:=[.o .str,.o (.st .zn),.o (.sl (.st .Node))]
abbrev q42:Kp:=⟨[(0,q30),(1,q10)],[(0,q32),(1,q35)],[],[],2,q39⟩
abbrev q43:List D:=[.o (.st .zn)]
abbrev q44:Alt:=⟨.tu [],[(0,q32)],[],2,q43⟩
abbrev q45:Kp:=⟨[(0,q30),(1,q1)],[(0,q32),(1,q35)],[],[],2,q41⟩
abbrev q46:Kp:=⟨[(0,q30)],[(0,q32),(1,q35)],[],[],2,q36⟩
abbrev q47:RS:=.one (q1)
abbrev q48:Alt:=⟨q11,[(0,q32)],[],2,[.o .int,.o (.st .zn)]⟩
abbrev q49:Kp:=⟨[],[(0,q32)],[],[],3500,q43⟩
abbrev q50:BS:=.rd (.box [.cell (.leaf (.ptr 1 0))])
abbrev q51:CS:=(.leaf (.row 2))
abbrev q52:BS:=.box [.part (.st .zn),.cell q51]
abbrev q53:Kp:=⟨[(0,q30)],[(0,q50),(1,.rd (q52)),(2,q35)],[],[],3,q36⟩
abbrev q54:Alt:=⟨q5,[],[],3,q6⟩
abbrev q55:SH:=.one (.leaf (.ptr 3 0))
abbrev q56:BS:=.box [.cell q9,.cell q9,.cell q0,.cell q31,.cell q51]
abbrev q57:BS:=.row 3 .int
abbrev q58:BS:=.row 9 .str
abbrev q59:BS:=.rd (q58)
abbrev q60:BS:=.rd (.box [.cell (.leaf (.ptr 4 0))])
abbrev q61:CS:=(.leaf (.row 5))
abbrev q62:BS:=.box [.part (.st .zn),.cell q61]
abbrev q63:List D:=[.o .int,.o .int,.o .str,.o (.sl .int),.o (.sl .str),.o (.st .zn),.o (.sl (.st .Node))]
abbrev q64:CS:=(.leaf (.row 6))
abbrev q65:BS:=.box [.cell (.leaf (.ptr 0 0))]
abbrev q66:BS:=.rd (q65)
abbrev q67:CS:=(.leaf (.row 4))
abbrev q68:BS:=.box [.cell q9,.cell q9,.cell q0,.cell q67,.cell q61]
abbrev q69:List D:=[.o .int,.o (.st .zn),.o (.sl (.st .Node)),.o .int,.o .int,.o .str,.o (.sl .int),.o (.sl .str)]
abbrev q70:List D:=[.o (.st .zn),.o .int,.o .int,.o .str,.o (.sl .int)]
abbrev q71:Kp:=⟨[],[(0,q32)],[],[],9000,q43⟩
abbrev q72:CS:=(.leaf (.row 3000))
abbrev q73:CS:=(.leaf (.row 3500))
abbrev q74:BS:=.rd (q57)
abbrev q75:List D:=[.o (.st .zn),.o .int,.o .int,.o .str,.o (.sl .str)]
abbrev q76:SH:=.ag [.part (.st .Value)]
abbrev q77:RS:=.one (q76)
abbrev q78:SH:=.ag [.part (.st .Node)]
abbrev q79:Kp:=⟨[(0,q30),(1,q78)],[(0,q32),(1,q34)],[],[],2,[.o (.st .Node),.o (.st .zn),.o (.sl (.st .Node))]⟩
abbrev q80:Alt:=⟨q11,[(0,q52),(2,q34)],[1],3,q39⟩
abbrev q81:SH:=.one (.leaf (.val (.sl .str)))
abbrev q82:List D:=[.o (.sl .str),.o (.st .zn),.o (.sl (.st .Node))]
abbrev q83:Kp:=⟨[(0,q30)],[(0,q32),(1,q34)],[],[],2,q36⟩
abbrev q84:SH:=.one (.leaf (.ptr 2 0))
abbrev q85:List D:=[.o (.sl .int),.o (.st .zn),.o (.sl (.st .Node))]
abbrev q86:CS:=(.leaf (.row 3))
abbrev q87:List D:=[.o (.st .zn),.o (.sl (.st .Node)),.o (.sl .int)]
abbrev q88:BS:=.box [.part (.st .zn),.cell q72]
abbrev q89:Alt:=⟨.one (.one q51),[(2,q57),(0,.box [.part (.st .zn),.cell q86]),(3,q34)],[1],4,q85⟩
abbrev q90:CS:=(.leaf (.row 10000))
abbrev q91:Kp:=⟨[(7,q10)],[(0,q88),(3000,q34)],[],[3],3001,q39⟩
abbrev q92:Kp:=⟨[(0,q30),(1,q10)],[(0,q32),(1,q34)],[],[],2,q39⟩
abbrev q93:BS:=.box [.part (.st .zn),.cell (.leaf (.row 5001))]
abbrev q94:CS:=(.leaf (.val (.sl (.st .Node))))
abbrev q95:SH:=.one q94
abbrev q96:Kp:=⟨[(0,q95)],[],[],[],0,[.o (.sl (.st .Node))]⟩
abbrev q97:List D:=[.n,.o (.sl .int)]
abbrev q98:List D:=[.o (.sl .int)]
abbrev q99:List D:=[.o .bool,.o (.st .zn),.o (.sl (.st .Node))]
abbrev q100:List D:=[.o (.st .zn),.o (.sl (.st .Node)),.o .str,.o (.st .Value),.o (.sl .int)]
abbrev q101:CS:=(.leaf (.row 4500))
abbrev q102:CS:=(.leaf (.row 8000))
abbrev q103:BS:=.box [.part (.st .zn),.cell q94]
abbrev q104:BS:=.rd (q103)
abbrev q105:Alt:=⟨q5,[],[],1,q6⟩
abbrev q106:Kp:=⟨[(0,q30),(1,q10)],[(0,q103)],[],[],1,q39⟩
abbrev q107:Alt:=⟨.tu [],[(0,q103)],[],1,q36⟩
abbrev q108:Kp:=⟨[(0,q30),(1,q1)],[(0,q103)],[],[],1,q41⟩
abbrev q109:Kp:=⟨[(0,q30)],[(0,q103)],[],[],1,q36⟩
abbrev q110:Kp:=⟨[(0,q30)],[(0,q50),(1,q104)],[],[],2,q36⟩
abbrev q111:Alt:=⟨q11,[(0,q103)],[],1,q39⟩
abbrev q112:BS:=.box [.cell q0,.cell q86,.cell q9,.cell q67]
abbrev q113:BS:=.row 112 (.st .Param)
abbrev q114:BS:=.box [.cell q0,.cell q61,.cell q9,.cell q67]
abbrev q115:List D:=[.o (.st .zn),.o (.sl (.st .Node)),.o .str,.o .int,.o (.sl (.st .Param))]
abbrev q116:Kp:=⟨[],[(0,q103)],[],[],9000,q36⟩
abbrev q117:BS:=.box [.cell q9,.cell q9,.cell q0,.cell q86,.cell q67]
abbrev q118:List D:=[.o (.st .zn),.o (.sl (.st .Node)),.o .int,.o .int,.o .str,.o (.sl .int)]
abbrev q119:List D:=[.o (.st .zn),.o (.sl (.st .Node)),.o .int,.o .int,.o .str,.o (.sl .str)]
abbrev q120:SH:=.ag [.part (.st .Field)]
abbrev q121:RS:=.one (.ag [.cell q0,.cell q31,.cell q51])
abbrev q122:BS:=.row 82 (.st .Field)
abbrev q123:BS:=.row 110 (.st .Method)
abbrev q124:CS:=(.leaf .nilS)
abbrev q125:List D:=[.o (.st .zn),.o (.sl (.st .Node)),.o .str,.o (.sl (.st .Field))]
abbrev q126:List D:=[.o (.st .zn),.o (.sl (.st .Node)),.o .str,.o (.sl (.st .Method))]
abbrev q127:SH:=.ag [.part (.st .Program)]
abbrev q128:Alt:=⟨.tu [q127,q10,q10],[],[],0,[.o (.st .Program),.o .int,.o .int]⟩
abbrev q129:List D:=[.o (.sl (.st .zF)),.o (.st .zn),.o (.sl (.st .Node))]
abbrev q130:Kp:=⟨[(0,q10)],[],[],[],0,[.o .int]⟩
abbrev q131:List D:=[.o (.st .Value)]
abbrev q132:Kp:=⟨[(0,q76)],[],[],[],0,q131⟩
abbrev q133:SH:=.one (.leaf (.val (.sl .int)))
abbrev q134:Kp:=⟨[(0,q133),(1,q10)],[],[],[],0,[.o (.sl .int),.o .int]⟩
abbrev q135:Kp:=⟨[(8,q13)],[],[],[],3000,[.n]⟩
abbrev q136:Kp:=⟨[(0,q120)],[],[],[],0,[.o (.st .Field)]⟩
abbrev q137:SH:=.one (.leaf (.val (.sl (.st .Field))))
abbrev q138:Kp:=⟨[(0,q137),(1,.one (.clo false 134 []))],[],[],[],0,[.o (.sl (.st .Field))]⟩
abbrev q139:SH:=.ag [.part (.st .Method)]
abbrev q140:Kp:=⟨[],[],[],[],5500,[]⟩
abbrev q141:Kp:=⟨[(0,q133),(1,q133)],[],[],[],0,[.o (.sl .int),.o (.sl .int)]⟩
abbrev q142:Kp:=⟨[(13,q13)],[],[],[],5000,[.n]⟩
abbrev q143:SH:=.one q101
abbrev q144:BS:=.box [.part (.st .Node)]
abbrev q145:BS:=.rd (q144)
abbrev q146:SH:=.one (.leaf (.ptr 1 0))
abbrev q147:BS:=.rd (.box [.cell q94])
abbrev q148:List D:=[.o .int,.o (.st .Node),.o (.sl (.st .Node))]
abbrev q149:Kp:=⟨[(14,q13)],[],[],[],3000,[.n]⟩
abbrev q150:Kp:=⟨[(0,q81),(1,q81)],[],[],[],0,[.o (.sl .str),.o (.sl .str)]⟩
abbrev q151:Kp:=⟨[(0,q76),(1,q76)],[],[],[],0,[.o (.st .Value),.o (.st .Value)]⟩
abbrev q152:Kp:=⟨[(0,q81),(1,q1)],[],[],[],0,[.o (.sl .str),.o .str]⟩
abbrev q153:List D:=[.o (.st .Node)]
abbrev q154:Kp:=⟨[(0,q127)],[],[],[],0,[.o (.st .Program)]⟩
abbrev q155:Kp:=⟨[],[],[],[],6500,[]⟩
abbrev q156:SH:=.ag [.part (.st .zF)]
abbrev q157:BS:=.rd (.box [.part (.st .zF)])
abbrev q158:SH:=.one (.leaf (.val (.sl (.st .zF))))
abbrev q159:Kp:=⟨[(0,q158),(1,.one (.clo false 58 [(.ptr 0 0)]))],[(0,q157)],[],[],1,[.o (.sl (.st .zF)),.o (.st .zF)]⟩
abbrev q160:Alt:=⟨q11,[],[],1,[.o .int]⟩
abbrev q161:SH:=.one (.leaf (.val (.sl (.st .Method))))
abbrev q162:Kp:=⟨[(0,q161),(1,.one (.clo false 60 [(.ptr 0 0)]))],[(0,.rd (.box [.part (.st .Method)]))],[],[],1,[.o (.sl (.st .Method)),.o (.st .Method)]⟩
abbrev q163:CS:=(.leaf (.map 2))
abbrev q164:CS:=(.leaf (.map 4))
abbrev q165:CS:=(.leaf (.map 5))
abbrev q166:BS:=.box [.part (.st .zX),.cell (.leaf (.map 1)),.cell q163,.part (.st .zW),.cell q86,.cell q164,.cell q165,.part (.st .zS)]
abbrev q167:BS:=.mp .str (.st .Vari)
abbrev q168:BS:=.mp .str .bool
abbrev q169:BS:=.mp .int .int
abbrev q170:BS:=.rd (q169)
abbrev q171:BS:=.mp .int (.st .Vari)
abbrev q172:BS:=.rd (q171)
abbrev q173:BS:=.box [.part (.st .zX),.cell (.leaf (.map 1)),.cell q163,.part (.st .zW),.cell q64,.cell q164,.cell q165,.part (.st .zS)]
abbrev q174:Kp:=⟨[(0,q95),(1,q10)],[],[],[],0,[.o (.sl (.st .Node)),.o .int]⟩
abbrev q175:BS:=.box [.cell q9]
abbrev q176:BS:=.rd (q175)
abbrev q177:BS:=.rd (q167)
abbrev q178:BS:=.rd (q168)
abbrev q179:BS:=.rd (q113)
abbrev q180:List D:=[.o (.st .zX),.o (.st .zW),.o (.st .zS)]
abbrev q181:Alt:=⟨.tu [],[(0,q166)],[],6,q180⟩
abbrev q182:List D:=[.o .int,.o .bool,.o (.st .zX),.o (.st .zW),.o (.st .zS),.o (.mp .str (.st .Vari)),.o (.mp .str .bool),.o (.sl (.st .Param)),.o (.mp .int .int),.o (.mp .int (.st .Vari))]
abbrev q183:BS:=.box [.cell q0]
abbrev q184:BS:=.rd (q183)
abbrev q185:Kp:=⟨[(0,q156),(1,q30)],[(0,q184)],[],[],1,[.o (.st .zF),.o .str]⟩
abbrev q186:List D:=[.o (.sl (.st .zF)),.o .str]
abbrev q187:Kp:=⟨[(0,q139),(1,q30)],[(0,q184)],[],[],1,[.o (.st .Method),.o .str]⟩
abbrev q188:Kp:=⟨[(0,q127),(1,q1),(2,q1)],[],[],[],0,[.o (.st .Program),.o .str,.o .str]⟩
abbrev q189:Kp:=⟨[(17,q13)],[],[],[],5000,[.n]⟩
abbrev q190:List D:=[.o .int,.o (.st .Node),.o (.sl .int),.o (.st .zX),.o (.st .zW),.o (.st .zS),.o (.mp .str (.st .Vari)),.o (.mp .str .bool),.o (.sl (.st .Param)),.o (.mp .int .int),.o (.mp .int (.st .Vari))]
abbrev q191:Alt:=⟨q11,[(0,q166)],[],6,[.o .int,.o (.st .zX),.o (.st .zW),.o (.st .zS)]⟩
abbrev q192:BS:=.row 373 (.st .Signature)
abbrev q193:Alt:=⟨.tu [],[(0,q173),(1,q167),(2,q168),(6,q113),(5,q171)],[3],7,[.o (.st .zX),.o (.st .zW),.o (.st .zS),.o (.mp .str (.st .Vari)),.o (.mp .str .bool),.o (.sl (.st .Param)),.o (.mp .int (.st .Vari))]⟩
abbrev q194:BS:=.box [.part (.st .zX),.cell (.leaf (.map 6)),.cell q163,.part (.st .zW),.cell (.leaf (.row 7)),.cell q164,.cell q165,.part (.st .zS)]
abbrev q195:List D:=[.o (.st .zX),.o (.st .zW),.o (.st .zS),.o (.mp .str (.st .Vari)),.o (.mp .str .bool),.o (.sl (.st .Param)),.o (.mp .int .int),.o (.mp .int (.st .Vari))]
abbrev q196:SH:=.ag [.part (.st .Place)]
abbrev q197:SH:=.one (.leaf (.val (.pt (.st .Info))))
abbrev q198:Kp:=⟨[(0,q197),(1,q10),(2,q10)],[],[],[],0,[.o (.pt (.st .Info)),.o .int,.o .int]⟩
abbrev q199:RS:=.one (q24)
abbrev q200:BS:=.box [.part (.st .yA),.cell q31]
abbrev q201:BS:=.rd (q200)
abbrev q202:BS:=.row 195 (.st .Instr)
abbrev q203:List D:=[.o (.st .yA),.o (.sl (.st .Instr))]
abbrev q204:SH:=.one (.clo true 228 [(.ptr 0 0)])
abbrev q205:BS:=.box [.part (.st .yA),.cell q51]
abbrev q206:Alt:=⟨.tu [],[(0,q205),(2,q202)],[1],3,q203⟩
abbrev q207:Kp:=⟨[(0,q30),(1,q10),(2,q78)],[(0,q200),(1,q202)],[],[],2,[.o .int,.o (.st .Node),.o (.st .yA),.o (.sl (.st .Instr))]⟩
abbrev q208:List D:=[.o .int,.o (.st .yA),.o (.sl (.st .Instr))]
abbrev q209:Kp:=⟨[(0,q30),(1,q10)],[(0,q201),(1,.rd (q202))],[],[],2,q208⟩
abbrev q210:Kp:=⟨[(0,q197),(1,q196)],[],[],[],0,[.o (.pt (.st .Info)),.o (.st .Place)]⟩
abbrev q211:Kp:=⟨[(0,q30),(1,q10),(2,q10),(3,q10)],[(0,q200),(1,q202)],[],[],2,[.o .int,.o .int,.o .int,.o (.st .yA),.o (.sl (.st .Instr))]⟩
abbrev q212:RS:=.tu [q10,q4]
abbrev q213:Alt:=⟨q212,[],[],0,[.o .int,.o .bool]⟩
abbrev q214:BS:=.box [.part (.st .yA),.cell q102]
abbrev q215:List D:=[.n,.o .str,.o .int,.o (.sl .int)]
abbrev q216:BS:=.rd (.box [.part (.st .Code)])
abbrev q217:Alt:=⟨q47,[],[],1,[.o .str]⟩
abbrev q218:Kp:=⟨[(10,q13)],[(1,q168)],[],[],4000,[.n,.o (.mp .str .bool)]⟩
abbrev q219:Kp:=⟨[],[],[],[1],4500,[]⟩
abbrev q220:BS:=.rd (.box [.part (.st .zq)])
abbrev q221:List D:=[.o .int,.o (.st .zq)]
abbrev q222:Kp:=⟨[(0,q10),(1,q30)],[(0,q220)],[],[],1,q221⟩
abbrev q223:Kp:=⟨[(0,q137),(1,.one (.clo false 151 []))],[],[],[],0,[.o (.sl (.st .Field))]⟩
abbrev q224:SH:=.ag [.part (.st .zq)]
abbrev q225:Kp:=⟨[(0,q224)],[],[],[],0,[.o (.st .zq)]⟩
abbrev q226:SH:=.one (.leaf (.val (.sl (.st .zq))))
abbrev q227:Kp:=⟨[(0,q226),(1,.one (.clo false 74 []))],[],[],[],0,[.o (.sl (.st .zq))]⟩
abbrev q228:Kp:=⟨[(0,q133),(1,.one (.clo false 238 []))],[],[],[],0,q98⟩
abbrev q229:Kp:=⟨[(0,q10),(1,q10)],[],[],[],0,[.o .int,.o .int]⟩
abbrev q230:SH:=.ag [.part (.st .Code)]
abbrev q231:SH:=.ag [.part (.st .zk)]
abbrev q232:SH:=.ag [.part (.st .Instr)]
abbrev q233:BS:=.rd (.box [.part (.st .zk)])
abbrev q234:Kp:=⟨[(0,.one (.leaf (.val (.sl (.st .Instr))))),(1,.one (.clo false 155 [(.ptr 0 0),(.ptr 1 0),(.ptr 2 0)]))],[(0,q216),(1,q220),(2,q233)],[],[],3,[.o (.sl (.st .Instr)),.o (.st .Code),.o (.st .zq),.o (.st .zk)]⟩
abbrev q235:Alt:=⟨q11,[],[],3,[.o .int]⟩
abbrev q236:Kp:=⟨[(0,q230),(1,q224),(2,q231)],[],[],[],0,[.o (.st .Code),.o (.st .zq),.o (.st .zk)]⟩
abbrev q237:Kp:=⟨[(0,q230)],[],[],[],0,[.o (.st .Code)]⟩
abbrev q238:Alt:=⟨q199,[(0,.row 309 (.st .Eff))],[],1,[.o (.sl (.st .Eff))]⟩
abbrev q239:Alt:=⟨q199,[(0,q57)],[],1,q98⟩
abbrev q240:RS:=.tu [q24,q4]
abbrev q241:BS:=.row 247 (.st .State)
abbrev q242:SH:=.one (.leaf (.val .u64))
abbrev q243:List D:=[.o (.sl .int),.o (.sl (.st .State))]
abbrev q244:BS:=.box [.cell (.leaf (.row 7000))]
abbrev q245:BS:=.row 80 (.st .zq)
abbrev q246:BS:=.box [.cell (.leaf (.row 7500))]
abbrev q247:CS:=(.leaf (.row 11500))
abbrev q248:BS:=.row 87 (.st .zk)
abbrev q249:Kp:=⟨[(0,q226),(1,.one (.clo false 106 [(.ptr 0 0)]))],[(0,q184)],[],[],1,[.o (.sl (.st .zq)),.o .str]⟩
abbrev q250:Alt:=⟨q212,[],[],1,[.o .int,.o .bool]⟩
abbrev q251:Kp:=⟨[(0,.one (.leaf (.val (.sl (.st .zk))))),(1,.one (.clo false 108 [(.ptr 0 0)]))],[(0,q184)],[],[],1,[.o (.sl (.st .zk)),.o .str]⟩
abbrev q252:List D:=[.o (.st .Value),.o .int]
abbrev q253:CS:=(.leaf (.val (.sl (.st .Value))))
abbrev q254:SH:=.one q253
abbrev q255:List D:=[.o (.sl (.st .Value)),.o (.sl .int)]
abbrev q256:List D:=[.o .int,.o .int,.o .str,.o (.sl .int),.o (.sl .str)]
abbrev q257:List D:=[.o (.sl (.st .Value))]
abbrev q258:Kp:=⟨[(0,q254)],[],[],[],0,q257⟩
abbrev q259:BS:=.row 53 (.st .Value)
abbrev q260:Alt:=⟨q199,[(0,q259)],[],1,q257⟩
abbrev q261:Kp:=⟨[(9,q13)],[(0,q259)],[],[],4000,[.n,.o (.sl (.st .Value))]⟩
abbrev q262:Kp:=⟨[],[(0,q259)],[],[],4500,q257⟩
abbrev q263:SH:=.ag [.part (.st .Machine)]
abbrev q264:Kp:=⟨[(0,q230),(1,q263)],[],[],[],0,[.o (.st .Code),.o (.st .Machine)]⟩
abbrev q265:List D:=[.o (.st .Code),.o .int,.o .int]
abbrev q266:BS:=.box [.part (.st .yj),.cell q31,.part (.st .yK),.cell q51,.cell q86,.cell q67,.part (.st .yE)]
abbrev q267:BS:=.rd (q259)
abbrev q268:BS:=.row 137 (.st .Effect)
abbrev q269:BS:=.rd (q268)
abbrev q270:BS:=.box [.part (.st .yj),.cell q31,.part (.st .yK),.cell q51,.cell q61,.cell q67,.part (.st .yE)]
abbrev q271:List D:=[.o (.st .yj),.o (.st .yK),.o (.st .yE),.o (.sl (.st .Value))]
abbrev q272:RS:=.one (.ag [.cell (.clo false 262 [(.ptr 0 0)]),.cell (.clo false 255 [(.ptr 1 0)])])
abbrev q273:BS:=.box [.cell (.clo false 168 [])]
abbrev q274:BS:=.box [.cell (.clo false 169 [])]
abbrev q275:BS:=.box [.cell (.clo false 170 [])]
abbrev q276:BS:=.box [.cell (.clo false 171 [])]
abbrev q277:RS:=.one (.ag [.cell (.clo false 262 [(.ptr 0 0)]),.cell (.clo false 256 [(.ptr 1 0)])])
abbrev q278:BS:=.box [.cell (.clo false 173 [])]
abbrev q279:BS:=.box [.cell (.clo false 174 [])]
abbrev q280:BS:=.rd (q266)
abbrev q281:List D:=[.o (.st .yj),.o (.st .yK),.o (.st .yE),.o (.sl (.st .Value)),.o (.sl (.st .Value)),.o (.sl (.st .Value)),.o (.sl (.st .Effect))]
abbrev q282:BS:=.cm [(.int .i64 1,.ag [.cell (.clo false 262 [(.ptr 6 0)]),.cell (.clo false 255 [(.ptr 7 0)])]),(.int .i64 2,.ag [.cell (.clo false 262 [(.ptr 8 0)]),.cell (.clo false 255 [(.ptr 9 0)])]),(.int .i64 4,.ag [.cell (.clo false 262 [(.ptr 10 0)]),.cell (.clo false 255 [(.ptr 11 0)])]),(.int .i64 6,.ag [.cell (.clo false 262 [(.ptr 12 0)]),.cell (.clo false 255 [(.ptr 13 0)])]),(.int .i64 3,.ag [.cell (.clo false 262 [(.ptr 14 0)]),.cell (.clo false 256 [(.ptr 15 0)])]),(.int .i64 5,.ag [.cell (.clo false 262 [(.ptr 16 0)]),.cell (.clo false 256 [(.ptr 17 0)])]),(.int .i64 7,.ag [.cell (.clo false 262 [(.ptr 18 0)]),.cell (.clo false 257 [(.ptr 19 0)])]),(.int .i64 8,.ag [.cell (.clo false 262 [(.ptr 20 0)]),.cell (.clo false 257 [(.ptr 21 0)])]),(.int .i64 9,.ag [.cell (.clo false 262 [(.ptr 22 0)]),.cell (.clo false 259 [(.ptr 23 0)])]),(.int .i64 10,.ag [.cell (.clo false 262 [(.ptr 24 0)]),.cell (.clo false 259 [(.ptr 25 0)])]),(.int .i64 11,.ag [.cell (.clo false 262 [(.ptr 26 0)]),.cell (.clo false 259 [(.ptr 27 0)])]),(.int .i64 12,.ag [.cell (.clo false 262 [(.ptr 28 0)]),.cell (.clo false 259 [(.ptr 29 0)])]),(.int .i64 13,.ag [.cell (.clo false 262 [(.ptr 30 0)]),.cell (.clo false 259 [(.ptr 31 0)])]),(.int .i64 14,.ag [.cell (.clo false 262 [(.ptr 32 0)]),.cell (.clo false 259 [(.ptr 33 0)])]),(.int .i64 15,.ag [.cell (.clo false 262 [(.ptr 34 0)]),.cell (.clo false 259 [(.ptr 35 0)])]),(.int .i64 16,.ag [.cell (.clo false 262 [(.ptr 36 0)]),.cell (.clo false 259 [(.ptr 37 0)])]),(.int .i64 17,.ag [.cell (.clo false 262 [(.ptr 38 0)]),.cell (.clo false 259 [(.ptr 39 0)])]),(.int .i64 18,.ag [.cell (.clo false 262 [(.ptr 40 0)]),.cell (.clo false 259 [(.ptr 41 0)])]),(.int .i64 19,.ag [.cell (.clo false 262 [(.ptr 42 0)]),.cell (.clo false 259 [(.ptr 43 0)])]),(.int .i64 20,.ag [.cell (.clo false 262 [(.ptr 44 0)]),.cell (.clo false 259 [(.ptr 45 0)])]),(.int .i64 21,.ag [.cell (.clo false 262 [(.ptr 46 0)]),.cell (.clo false 260 [(.ptr 47 0)])]),(.int .i64 22,.ag [.cell (.clo false 262 [(.ptr 48 0)]),.cell (.clo false 260 [(.ptr 49 0)])]),(.int .i64 23,.ag [.cell (.clo false 262 [(.ptr 50 0)]),.cell (.clo false 260 [(.ptr 51 0)])]),(.int .i64 24,.ag [.cell (.clo false 262 [(.ptr 52 0)]),.cell (.clo false 260 [(.ptr 53 0)])]),(.int .i64 25,.ag [.cell (.clo false 262 [(.ptr 54 0)]),.cell (.clo false 260 [(.ptr 55 0)])]),(.int .i64 26,.ag [.cell (.clo false 261 []),.cell (.clo false 260 [(.ptr 56 0)])]),(.int .i64 27,.ag [.cell (.clo false 261 []),.cell (.clo false 260 [(.ptr 57 0)])]),(.int .i64 28,.ag [.cell (.clo false 262 [(.ptr 58 0)]),.cell (.clo false 180 [])]),(.int .i64 29,.ag [.cell (.clo false 262 [(.ptr 59 0)]),.cell (.clo false 180 [])]),(.int .i64 30,.ag [.cell (.clo false 181 [(.ptr 60 0)]),.cell (.clo false 183 [])]),(.int .i64 31,.ag [.cell (.clo false 262 [(.ptr 61 0)]),.cell (.clo false 184 [])]),(.int .i64 32,.ag [.cell (.clo false 262 [(.ptr 62 0)]),.cell (.clo false 185 [])]),(.int .i64 33,.ag [.cell (.clo false 262 [(.ptr 63 0)]),.cell (.clo false 186 [])]),(.int .i64 34,.ag [.cell (.clo false 262 [(.ptr 64 0)]),.cell (.clo false 263 [(.ptr 65 0)])]),(.int .i64 35,.ag [.cell (.clo false 262 [(.ptr 66 0)]),.cell (.clo false 263 [(.ptr 67 0)])]),(.int .i64 36,.ag [.cell (.clo false 262 [(.ptr 68 0)]),.cell (.clo false 263 [(.ptr 69 0)])])]
abbrev q283:RS:=.one (.one q31)
abbrev q284:List D:=[.o (.st .Instr),.o (.st .yj),.o (.st .yK),.o (.st .yE),.o (.sl (.st .Value)),.o (.sl (.st .Value)),.o (.sl (.st .Value)),.o (.sl (.st .Effect))]
abbrev q285:Kp:=⟨[(0,q30),(1,q232)],[(0,q280),(1,q267),(2,q267),(3,q267),(4,q269)],[],[],5,q284⟩
abbrev q286:Alt:=⟨q77,[],[],5,q131⟩
abbrev q287:SH:=.one (.leaf (.ptr 5 0))
abbrev q288:BS:=.rd (q273)
abbrev q289:List D:=[.o (.st .Instr),.o (.sl (.st .Value)),.o (.st .yj),.o (.st .yK),.o (.st .yE),.o (.sl (.st .Value)),.o (.sl (.st .Value)),.o (.sl (.st .Value)),.o (.sl (.st .Effect))]
abbrev q290:List D:=[.o .int,.o (.st .yj),.o (.st .yK),.o (.st .yE),.o (.sl (.st .Value))]
abbrev q291:Alt:=⟨q11,[(0,.box [.part (.st .yj),.cell q31,.part (.st .yK),.cell q51,.cell q64,.cell q67,.part (.st .yE)]),(6,q259)],[3],7,q290⟩
abbrev q292:BS:=.rd (q274)
abbrev q293:BS:=.rd (q275)
abbrev q294:BS:=.rd (q276)
abbrev q295:Alt:=⟨.one (.one (.leaf (.elt 1 5 0))),[],[],5,[.n]⟩
abbrev q296:BS:=.rd (q278)
abbrev q297:Alt:=⟨.one (.one (.leaf (.elt 2 5 0))),[],[],5,[.n]⟩
abbrev q298:BS:=.rd (q279)
abbrev q299:Alt:=⟨q77,[],[],0,q131⟩
abbrev q300:RS:=.tu [q76,q10]
abbrev q301:Alt:=⟨q300,[],[],0,q252⟩
abbrev q302:Kp:=⟨[(0,q30),(1,q232),(2,q254),(3,q287)],[(0,q266),(1,q267),(2,q267),(3,q259),(4,q269),(5,q184)],[],[],6,[.o (.st .Instr),.o (.sl (.st .Value)),.o (.st .yj),.o (.st .yK),.o (.st .yE),.o (.sl (.st .Value)),.o (.sl (.st .Value)),.o (.sl (.st .Value)),.o (.sl (.st .Effect)),.o .str]⟩
abbrev q303:CS:=(.leaf (.num .i64 0))
abbrev q304:Kp:=⟨[(0,q30),(1,q232),(2,q254)],[(0,q266),(1,q267),(2,q267),(3,q267),(4,q269)],[],[],5,q289⟩
abbrev q305:Alt:=⟨q11,[(0,q266)],[],5,[.o .int,.o (.st .yj),.o (.st .yK),.o (.st .yE)]⟩
abbrev q306:List D:=[.o (.st .yj),.o (.st .yK),.o (.st .yE)]
abbrev q307:Kp:=⟨[(0,q30),(1,q232),(2,q254)],[(0,q280),(1,q267),(2,q267),(3,q267),(4,q269)],[],[],5,q289⟩
abbrev q308:Alt:=⟨q11,[],[],5,[.o .int]⟩
abbrev q309:List D:=[.o .int,.o (.st .yj),.o (.st .yK),.o (.st .yE),.o (.sl (.st .Value)),.o (.sl (.st .Value)),.o (.sl (.st .Value)),.o (.sl (.st .Effect))]
abbrev q310:SH:=.ag [.part (.st .zi)]
abbrev q311:CS:=(.leaf (.val (.sl (.st .Effect))))
abbrev q312:BS:=.fz (.val (.sl (.st .Value)))
abbrev q313:CS:=(.leaf (.val (.sl .u8)))
abbrev q314:SH:=.one q313
abbrev q315:List D:=[.o (.sl .u8),.o .int]
abbrev q316:Kp:=⟨[(0,q314),(1,q10)],[],[],[],0,q315⟩
abbrev q317:List D:=[.o (.sl .u8)]
abbrev q318:Alt:=⟨q199,[(0,q21)],[],1,q317⟩
abbrev q319:List D:=[.o .u64,.o (.sl .u8)]
abbrev q320:Alt:=⟨q283,[(1,q21)],[0],2,q317⟩
abbrev q321:BS:=.box [.cell q313]
abbrev q322:Alt:=⟨.tu [],[(0,.box [.cell q31]),(1,q21)],[],2,q317⟩
abbrev q323:List D:=[.n,.o (.sl .u8)]
abbrev q324:Kp:=⟨[(5,q20),(20,q13)],[(4000,q21)],[],[3],4001,q323⟩
abbrev q325:Kp:=⟨[(5,q143)],[(4500,q21)],[],[3],4501,q317⟩
abbrev q326:Kp:=⟨[(0,q314)],[],[],[],0,q317⟩
abbrev q327:BS:=.box [.cell q313,.cell q3]
abbrev q328:Kp:=⟨[(0,q30),(1,q10)],[(0,q327)],[],[],1,[.o .int,.o (.sl .u8),.o .bool]⟩
abbrev q329:Alt:=⟨.tu [q10,q10,q10],[],[],0,[.o .int,.o .int,.o .int]⟩
abbrev q330:Alt:=⟨.tu [q1,q10,q10],[],[],0,[.o .str,.o .int,.o .int]⟩
abbrev q331:Kp:=⟨[(0,q30)],[(0,q327)],[],[],1,[.o (.sl .u8),.o .bool]⟩
abbrev q332:Alt:=⟨q25,[(0,q57)],[],1,[.o .int,.o .int,.o (.sl .int)]⟩
abbrev q333:Alt:=⟨q25,[(0,q58)],[],1,[.o .int,.o .int,.o (.sl .str)]⟩
abbrev q334:Kp:=⟨[(5,q13)],[],[],[],5000,[.n]⟩
abbrev q335:BS:=.rd (.box [.cell (.leaf (.val (.sl .int)))])
abbrev q336:SH:=.one (.leaf (.val (.sl (.st .Input))))
abbrev q337:Kp:=⟨[(0,q336),(1,.one (.clo false 93 [(.ptr 0 0)]))],[(0,q335)],[],[],1,[.o (.sl (.st .Input)),.o (.sl .int)]⟩
abbrev q338:BS:=.box [.part (.st .zL),.cell q31,.cell q51,.cell q86,.part (.st .zH),.cell q67,.cell q3]
abbrev q339:BS:=.row 60 (.st .zi)
abbrev q340:BS:=.rd (q339)
abbrev q341:List D:=[.o (.st .zL),.o (.st .zH),.o .bool,.o (.sl (.st .Value)),.o (.sl (.st .Value)),.o (.sl (.st .Effect)),.o (.sl (.st .zi))]
abbrev q342:List D:=[.o (.st .zL),.o (.st .zH),.o .bool,.o (.sl (.st .Value))]
abbrev q343:BS:=.rd (q338)
abbrev q344:List D:=[.o (.st .Node),.o (.st .zL),.o (.st .zH),.o .bool,.o (.sl (.st .Value)),.o (.sl (.st .Value)),.o (.sl (.st .Effect)),.o (.sl (.st .zi)),.o (.st .Node)]
abbrev q345:RS:=.one (.one (.clo false 311 [(.ptr 6 0),(.ptr 7 0),(.ptr 8 0)]))
abbrev q346:List D:=[.o (.st .Node),.o (.st .zL),.o (.st .zH),.o .bool,.o (.sl (.st .Value)),.o (.sl (.st .Value)),.o (.sl (.st .Effect)),.o (.sl (.st .zi))]
abbrev q347:Alt:=⟨.one (.one (.clo false 316 [(.ptr 5 0),(.ptr 6 0),(.ptr 7 0)])),[(5,q65),(6,q144),(7,.box [.cell (.leaf .nat)])],[],8,[.o (.st .Node),.n]⟩
abbrev q348:List D:=[.o .int,.o (.st .zL),.o (.st .zH),.o .bool,.o (.sl (.st .Value)),.o (.sl (.st .Value)),.o (.sl (.st .Effect)),.o (.sl (.st .zi))]
abbrev q349:Kp:=⟨[(0,q30),(1,q10)],[(0,q343),(1,q267),(2,q267),(3,q269),(4,q340)],[],[],5,q348⟩
abbrev q350:RS:=.one (.one (.clo false 311 [(.ptr 5 0),(.ptr 6 0),(.ptr 7 0)]))
abbrev q351:BS:=.box [.cell (.clo false 246 [(.ptr 8 0)])]
abbrev q352:List D:=[.o (.st .Node),.o (.st .Node)]
abbrev q353:BS:=.box [.cell (.clo false 249 [(.ptr 8 0)])]
abbrev q354:BS:=.box [.cell (.clo false 251 [(.ptr 8 0)])]
abbrev q355:BS:=.box [.part (.st .zL),.cell q51,.cell q86,.cell q67,.part (.st .zH),.cell q61,.cell q3]
abbrev q356:BS:=.rd (q355)
abbrev q357:SH:=.one (.leaf (.ptr 6 0))
abbrev q358:Kp:=⟨[(0,q254),(1,q30)],[(0,q145)],[],[],1,[.o (.sl (.st .Value)),.o (.st .Node)]⟩
abbrev q359:Alt:=⟨q300,[],[],1,q252⟩
abbrev q360:CS:=(.leaf (.lit true))
abbrev q361:List D:=[.o (.st .Value),.o (.st .zL),.o (.st .zH),.o .bool,.o (.sl (.st .zi))]
abbrev q362:List D:=[.o (.sl (.st .Value)),.o (.st .zL),.o (.st .zH),.o .bool,.o (.sl (.st .zi))]
abbrev q363:SH:=.one (.leaf (.ptr 7 0))
abbrev q364:List D:=[.o (.st .zL),.o (.st .zH),.o .bool,.o (.sl (.st .Value)),.o (.sl (.st .Value)),.o (.sl (.st .Effect)),.o (.sl (.st .zi)),.o (.st .Node),.o (.st .Node)]
abbrev q365:Alt:=⟨q77,[(1,.box [.part (.st .zL),.cell q51,.cell q86,.cell q67,.part (.st .zH),.cell (.leaf (.row 9)),.cell q3]),(9,q339)],[5],10,q361⟩
abbrev q366:BS:=.box [.part (.st .zL),.cell q253,.cell q31,.cell q311,.part (.st .zH),.cell q51,.cell q3]
abbrev q367:Kp:=⟨[(0,q30),(1,q10)],[(0,q338),(1,q259),(2,q267),(3,q268),(4,q339)],[],[],5,q348⟩
abbrev q368:BS:=.box [.part (.st .zL),.cell q61,.cell q51,.cell q64,.part (.st .zH),.cell (.leaf (.row 7)),.cell q3]
abbrev q369:Alt:=⟨q77,[(0,q368),(5,q259),(6,q268),(7,q339)],[1,3,4],8,[.o (.st .Value),.o (.st .zL),.o (.st .zH),.o .bool,.o (.sl (.st .Value)),.o (.sl (.st .Effect)),.o (.sl (.st .zi))]⟩
abbrev q370:BS:=.box [.part (.st .zL),.cell q253,.cell q51,.cell q311,.part (.st .zH),.cell q61,.cell q360]
abbrev q371:Alt:=⟨q77,[(0,q370),(5,q339)],[1,3,4],6,[.o (.st .Value),.o (.st .zL),.o (.sl (.st .Value)),.o (.sl (.st .Effect)),.o (.st .zH),.o (.sl (.st .zi))]⟩
abbrev q372:List D:=[.o (.st .zL),.o (.sl (.st .Value)),.o (.sl (.st .Effect)),.o (.st .zH),.o (.sl (.st .zi))]
abbrev q373:Alt:=⟨.tu [],[(0,q368),(5,q259),(2,q259),(6,q268),(7,q339)],[1,3,4],8,q341⟩
abbrev q374:List D:=[.o (.st .zL),.o (.sl (.st .Value)),.o (.sl (.st .Effect)),.o (.st .zH),.o (.sl (.st .Value)),.o (.sl (.st .zi))]
abbrev q375:Alt:=⟨.tu [],[(0,q370),(2,q259),(5,q339)],[1,3,4],6,q374⟩
abbrev q376:Kp:=⟨[(0,q30),(1,q78)],[(0,q338),(1,q259),(2,q259),(3,q268),(4,q339)],[],[],5,q346⟩
def C1 (k:Nat):Ctr:=⟨q2,[],[q7],fun x=>qA k x.1 x.2⟩
def T1 (k:Nat):TB:=(zn2 k).ad ((zn2 k).k k 189 Tryz.f189 (C1 k) noH)
def C2 (k:Nat):Ctr:=⟨q2,[],[q7],fun x=>strings_HasPrefix k x.1 x.2⟩
def T2 (k:Nat):TB:=(T1 k).ad ((T1 k).k k 118 Tryz.f118 (C2 k) noH)
def C3 (k:Nat):Ctr:=⟨q8,[],[q7],fun x=>za3 k x⟩
def T3 (k:Nat):TB:=(T2 k).ad ((T2 k).k k 120 Tryz.f120 (C3 k) noH)
def C4 (k:Nat):Ctr:=⟨⟨[(0,q1),(1,.one (.clo false 120 []))],[],[],[],0,[.o .str]⟩,[],[q12],fun x=>zas k x⟩
def h4:Hints:=⟨fun i=>match i with  | _=>none,fun i=>match i with|2=>some ⟨[q14],0,[q15],false⟩|_=>none,fun _=>none,fun _=>false⟩
def T4 (k:Nat):TB:=(T3 k).ad ((T3 k).k k 119 Tryz.f119 (C4 k) h4)
def C5 (k:Nat):Ctr:=⟨q16,[],[q12],fun x=>Qm k x⟩
def h5:Hints:=⟨fun i=>match i with  | _=>none,fun i=>match i with|2=>some ⟨[⟨[(3,q10)],[],[],[],3000,[.o .int]⟩],0,[⟨[(3,q10)],[],[],[],3500,[.o .int]⟩],true⟩|_=>none,fun _=>none,fun _=>false⟩
def T5 (k:Nat):TB:=(T4 k).ad ((T4 k).k k 50 Tryz.f50 (C5 k) h5)
def C6 (k:Nat):Ctr:=⟨q8,[],[q7],fun x=>UD k x⟩
def T6 (k:Nat):TB:=(T5 k).ad ((T5 k).k k 190 Tryz.f190 (C6 k) noH)
def C7 (k:Nat):Ctr:=⟨q8,[],[q7],fun x=>Ws k x⟩
def T7 (k:Nat):TB:=(T6 k).ad ((T6 k).k k 123 Tryz.f123 (C7 k) noH)
def C8 (k:Nat):Ctr:=⟨q8,[],[q7],fun x=>UH k x⟩
def T8 (k:Nat):TB:=(T7 k).ad ((T7 k).k k 191 Tryz.f191 (C8 k) noH)
def C9 (k:Nat):Ctr:=⟨⟨[(0,q1),(1,.one (.clo false 191 []))],[],[],[],0,[.o .str]⟩,[],[q12],fun x=>UF k x⟩
def h9:Hints:=⟨fun i=>match i with  | _=>none,fun i=>match i with|2=>some ⟨[q14],0,[q15],false⟩|_=>none,fun _=>none,fun _=>false⟩
def T9 (k:Nat):TB:=(T8 k).ad ((T8 k).k k 119 Tryz.f119 (C9 k) h9)
def C10 (k:Nat):Ctr:=⟨q16,[],[q12],fun x=>Qn k x⟩
def T10 (k:Nat):TB:=(T9 k).ad ((T9 k).k k 121 Tryz.f121 (C10 k) noH)
def C11 (k:Nat):Ctr:=⟨q16,[],[q7],fun x=>Zo k x⟩
def h11:Hints:=⟨fun i=>match i with|23=>some ⟨[⟨[(4,q4)],[],[],[],24000,q6⟩],false⟩|_=>none,fun i=>match i with  | _=>none,fun _=>none,fun _=>false⟩
def T11 (k:Nat):TB:=(T10 k).ad ((T10 k).k k 122 Tryz.f122 (C11 k) h11)
def C12 (k:Nat):Ctr:=⟨⟨[(0,q1),(1,.one (.clo false 123 []))],[],[],[],0,[.o .str]⟩,[],[q12],fun x=>UG k x⟩
def h12:Hints:=⟨fun i=>match i with  | _=>none,fun i=>match i with|2=>some ⟨[q14],0,[q15],false⟩|_=>none,fun _=>none,fun _=>false⟩
def T12 (k:Nat):TB:=(T11 k).ad ((T11 k).k k 119 Tryz.f119 (C12 k) h12)
def C13 (k:Nat):Ctr:=⟨q16,[],[q18],fun x=>UE k x⟩
def T13 (k:Nat):TB:=(T12 k).ad ((T12 k).k k 124 Tryz.f124 (C13 k) noH)
def C14 (k:Nat):Ctr:=⟨q8,[],[q7],fun x=>zbN k x⟩
def T14 (k:Nat):TB:=(T13 k).ad ((T13 k).k k 193 Tryz.f193 (C14 k) noH)
def C15 (k:Nat):Ctr:=⟨q8,[],[q12],fun x=>Yp k x⟩
def T15 (k:Nat):TB:=(T14 k).ad ((T14 k).k k 267 Tryz.f267 (C15 k) noH)
def C16 (k:Nat):Ctr:=⟨q16,[],[⟨.tu [.one (.leaf (.val .u8)),q10],[],[],0,[.o .u8,.o .int]⟩],fun x=>UC k x⟩
def T16 (k:Nat):TB:=(T15 k).ad ((T15 k).k k 194 Tryz.f194 (C16 k) noH)
def C17 (k:Nat):Ctr:=⟨q16,[],[q18],fun x=>J5 k x⟩
def h17:Hints:=⟨fun i=>match i with  | _=>none,fun i=>match i with|3=>some ⟨[⟨[(5,q20),(6,q10)],[(4000,q21)],[],[],4001,q22⟩],0,[⟨[],[],[],[],4500,[]⟩],true⟩|_=>none,fun _=>none,fun _=>false⟩
def T17 (k:Nat):TB:=(T16 k).ad ((T16 k).k k 125 Tryz.f125 (C17 k) h17)
def C18 (k:Nat):Ctr:=⟨q16,[],[q12],fun x=>WX k x⟩
def h18:Hints:=⟨fun i=>match i with  | _=>none,fun i=>match i with|2=>some ⟨[⟨[(6,q13)],[],[],[],3000,[.n]⟩],0,[q23],true⟩|_=>none,fun _=>none,fun _=>false⟩
def T18 (k:Nat):TB:=(T17 k).ad ((T17 k).k k 126 Tryz.f126 (C18 k) h18)
def C19 (k:Nat):Ctr:=⟨q16,[],[q18],fun x=>QS k x⟩
def T19 (k:Nat):TB:=(T18 k).ad ((T18 k).k k 51 Tryz.f51 (C19 k) noH)
def C20 (k:Nat):Ctr:=⟨q16,[],[⟨q25,[(0,q26)],[],1,[.o .int,.o .int,.o (.sl (.st .Token))]⟩],fun x=>UA k x⟩
def h20:Hints:=⟨fun i=>match i with  | _=>none,fun i=>match i with|4=>some ⟨[⟨[(2,q28),(5,q10)],[(5000,q26)],[],[],5001,[.o .int,.o (.sl (.st .Token))]⟩],0,[⟨[(2,.one q29)],[(5500,q26)],[],[],5501,[.o (.sl (.st .Token))]⟩],true⟩|_=>none,fun _=>none,fun _=>false⟩
def T20 (k:Nat):TB:=(T19 k).ad ((T19 k).k k 14 Tryz.f14 (C20 k) h20)
def C21 (k:Nat):Ctr:=⟨q37,[],[q38],fun x=>xG k x.1 x.2⟩
def T21 (k:Nat):TB:=(T20 k).ad ((T20 k).k k 52 Tryz.f52 (C21 k) noH)
def C22 (k:Nat):Ctr:=⟨q16,[],[q7],fun x=>y8 k x⟩
def T22 (k:Nat):TB:=(T21 k).ad ((T21 k).k k 132 Tryz.f132 (C22 k) noH)
def C23 (k:Nat):Ctr:=⟨q16,[],[q7],fun x=>WJ k x⟩
def T23 (k:Nat):TB:=(T22 k).ad ((T22 k).k k 268 Tryz.f268 (C23 k) noH)
def C24 (k:Nat):Ctr:=⟨⟨[(0,q17)],[],[],[],0,[.o (.st .Token)]⟩,[],[q7],fun x=>XW k x⟩
def T24 (k:Nat):TB:=(T23 k).ad ((T23 k).k k 195 Tryz.f195 (C24 k) noH)
def C25 (k:Nat):Ctr:=⟨⟨[(0,q30),(1,q10)],[(0,q33),(1,q35)],[],[],2,q39⟩,[],[⟨q40,[],[],2,[.o (.st .Token)]⟩],fun x=>yY k x.1 x.2.1 x.2.2⟩
def T25 (k:Nat):TB:=(T24 k).ad ((T24 k).k k 127 Tryz.f127 (C25 k) noH)
def C26 (k:Nat):Ctr:=⟨⟨[(0,q30),(1,q1)],[(0,q33),(1,q35)],[],[],2,q41⟩,[],[q38],fun x=>yF k x.1 x.2.1 x.2.2⟩
def T26 (k:Nat):TB:=(T25 k).ad ((T25 k).k k 53 Tryz.f53 (C26 k) noH)
def C27 (k:Nat):Ctr:=⟨q42,[0],[q44],fun x=>zY k x.1 x.2.1 x.2.2⟩
def T27 (k:Nat):TB:=(T26 k).ad ((T26 k).k k 54 Tryz.f54 (C27 k) noH)
def C28 (k:Nat):Ctr:=⟨q45,[0],[⟨q5,[(0,q32)],[],2,[.o .bool,.o (.st .zn)]⟩],fun x=>zC k x.1 x.2.1 x.2.2⟩
def T28 (k:Nat):TB:=(T27 k).ad ((T27 k).k k 196 Tryz.f196 (C28 k) noH)
def C29 (k:Nat):Ctr:=⟨q45,[0],[q44],fun x=>yt k x.1 x.2.1 x.2.2⟩
def T29 (k:Nat):TB:=(T28 k).ad ((T28 k).k k 128 Tryz.f128 (C29 k) noH)
def C30 (k:Nat):Ctr:=⟨q42,[0],[⟨q40,[(0,q32)],[],2,[.o (.st .Token),.o (.st .zn)]⟩],fun x=>wH k x.1 x.2.1 x.2.2⟩
def T30 (k:Nat):TB:=(T29 k).ad ((T29 k).k k 197 Tryz.f197 (C30 k) noH)
def C31 (k:Nat):Ctr:=⟨q46,[0],[⟨q47,[(0,q32)],[],2,[.o .str,.o (.st .zn)]⟩],fun x=>wG k x.1 x.2⟩
def T31 (k:Nat):TB:=(T30 k).ad ((T30 k).k k 129 Tryz.f129 (C31 k) noH)
def C32 (k:Nat):Ctr:=⟨q46,[0],[q48],fun x=>qW k x.1 x.2⟩
def h32:Hints:=⟨fun i=>match i with  | _=>none,fun i=>match i with|2=>some ⟨[⟨[(6,q13)],[(0,q32)],[],[],3000,[.n,.o (.st .zn)]⟩],0,[q49],true⟩|_=>none,fun _=>none,fun _=>false⟩
def T32 (k:Nat):TB:=(T31 k).ad ((T31 k).k k 198 Tryz.f198 (C32 k) h32)
def C33 (k:Nat):Ctr:=⟨q53,[],[q54],fun x=>qQ k x.1 x.2⟩
def T33 (k:Nat):TB:=(T32 k).ad ((T32 k).k k 269 Tryz.f269 (C33 k) noH)
def C34 (k:Nat):Ctr:=⟨q46,[0],[q48],fun x=>wM k x.1 x.2⟩
def T34 (k:Nat):TB:=(T33 k).ad ((T33 k).k k 271 Tryz.f271 (C34 k) noH)
def C35 (k:Nat):Ctr:=⟨⟨[(0,q30),(1,q55)],[(0,q56),(1,q57),(2,q59),(3,q60),(4,q62),(5,q35)],[],[],6,q63⟩,[0,1,4],[⟨.tu [],[(0,.box [.cell q9,.cell q9,.cell q0,.cell q64,.cell q51]),(6,q57),(4,q62)],[1],7,[.o .int,.o .int,.o .str,.o (.sl .int),.o (.st .zn)]⟩],fun x=>qR k x.1 x.2.1 x.2.2.1 x.2.2.2.1 x.2.2.2.2.1 x.2.2.2.2.2.1 x.2.2.2.2.2.2⟩
def T35 (k:Nat):TB:=(T34 k).ad ((T34 k).k k 270 Tryz.f270 (C35 k) noH)
def C36 (k:Nat):Ctr:=⟨⟨[(0,q30),(1,q10),(2,.one (.clo false 269 [(.ptr 2 0)])),(3,.one (.clo false 270 [(.ptr 3 0),(.ptr 2 0)]))],[(0,q32),(1,q35),(2,q66),(3,q68),(4,q57),(5,q59)],[],[],6,q69⟩,[0,3,4],[⟨.tu [],[(0,q32),(3,.box [.cell q9,.cell q9,.cell q0,.cell q64,.cell q61]),(6,q57)],[4],7,q70⟩],fun x=>vg k x.1 x.2.1 x.2.2.1 x.2.2.2.1 x.2.2.2.2.1 x.2.2.2.2.2.1 x.2.2.2.2.2.2.1 x.2.2.2.2.2.2.2⟩
def h36:Hints:=⟨fun i=>match i with|8=>some ⟨[q71],false⟩|_=>none,fun i=>match i with|2=>some ⟨[⟨[(8,q13)],[(0,q32),(3,.box [.cell q9,.cell q9,.cell q0,.cell q72,.cell q61]),(3000,q57)],[],[4],3001,[.n,.o (.st .zn),.o .int,.o .int,.o .str,.o (.sl .int)]⟩],0,[⟨[],[(0,q32),(3,.box [.cell q9,.cell q9,.cell q0,.cell q73,.cell q61]),(3500,q57)],[],[4],3501,q70⟩],true⟩|_=>none,fun _=>none,fun _=>false⟩
def T36 (k:Nat):TB:=(T35 k).ad ((T35 k).k k 200 Tryz.f200 (C36 k) h36)
def C37 (k:Nat):Ctr:=⟨q53,[],[q54],fun x=>qU k x.1 x.2⟩
def T37 (k:Nat):TB:=(T36 k).ad ((T36 k).k k 272 Tryz.f272 (C37 k) noH)
def C38 (k:Nat):Ctr:=⟨⟨[(0,q30),(1,q55)],[(0,q56),(1,q74),(2,q58),(3,q60),(4,q62),(5,q35)],[],[],6,q63⟩,[0,2,4],[⟨.tu [],[(0,.box [.cell q9,.cell q9,.cell q0,.cell q31,.cell q64]),(6,q58),(4,q62)],[2],7,[.o .int,.o .int,.o .str,.o (.sl .str),.o (.st .zn)]⟩],fun x=>qV k x.1 x.2.1 x.2.2.1 x.2.2.2.1 x.2.2.2.2.1 x.2.2.2.2.2.1 x.2.2.2.2.2.2⟩
def T38 (k:Nat):TB:=(T37 k).ad ((T37 k).k k 273 Tryz.f273 (C38 k) noH)
def C39 (k:Nat):Ctr:=⟨⟨[(0,q30),(1,q10),(2,.one (.clo false 272 [(.ptr 2 0)])),(3,.one (.clo false 273 [(.ptr 3 0),(.ptr 2 0)]))],[(0,q32),(1,q35),(2,q66),(3,q68),(4,q74),(5,q58)],[],[],6,q69⟩,[0,3,5],[⟨.tu [],[(0,q32),(3,.box [.cell q9,.cell q9,.cell q0,.cell q67,.cell q64]),(6,q58)],[5],7,q75⟩],fun x=>xZ k x.1 x.2.1 x.2.2.1 x.2.2.2.1 x.2.2.2.2.1 x.2.2.2.2.2.1 x.2.2.2.2.2.2.1 x.2.2.2.2.2.2.2⟩
def h39:Hints:=⟨fun i=>match i with|8=>some ⟨[q71],false⟩|_=>none,fun i=>match i with|2=>some ⟨[⟨[(8,q13)],[(0,q32),(3,.box [.cell q9,.cell q9,.cell q0,.cell q67,.cell q72]),(3000,q58)],[],[5],3001,[.n,.o (.st .zn),.o .int,.o .int,.o .str,.o (.sl .str)]⟩],0,[⟨[],[(0,q32),(3,.box [.cell q9,.cell q9,.cell q0,.cell q67,.cell q73]),(3500,q58)],[],[5],3501,q75⟩],true⟩|_=>none,fun _=>none,fun _=>false⟩
def T39 (k:Nat):TB:=(T38 k).ad ((T38 k).k k 200 Tryz.f200 (C39 k) h39)
def C40 (k:Nat):Ctr:=⟨q46,[0],[⟨q77,[(0,q32)],[],2,[.o (.st .Value),.o (.st .zn)]⟩],fun x=>wZ k x.1 x.2⟩
def T40 (k:Nat):TB:=(T39 k).ad ((T39 k).k k 199 Tryz.f199 (C40 k) noH)
def C41 (k:Nat):Ctr:=⟨q45,[0],[q44],fun x=>xO k x.1 x.2.1 x.2.2⟩
def h41:Hints:=⟨fun i=>match i with|2=>some ⟨[⟨[],[(0,q32)],[],[],3000,q43⟩],false⟩|_=>none,fun i=>match i with  | _=>none,fun _=>none,fun _=>false⟩
def T41 (k:Nat):TB:=(T40 k).ad ((T40 k).k k 274 Tryz.f274 (C41 k) h41)
def C42 (k:Nat):Ctr:=⟨q79,[0,1],[q80],fun x=>yc k x.1 x.2.1 x.2.2⟩
def T42 (k:Nat):TB:=(T41 k).ad ((T41 k).k k 276 Tryz.f276 (C42 k) noH)
def C43 (k:Nat):Ctr:=⟨q37,[],[q38],fun x=>kZ k x.1 x.2⟩
def h43:Hints:=⟨fun i=>match i with|6=>some ⟨[⟨[(8,q4)],[],[],[],7000,q6⟩],false⟩|9=>some ⟨[⟨[(12,q4)],[],[],[],10000,q6⟩],false⟩|18=>some ⟨[⟨[(17,q4)],[],[],[],19000,q6⟩],false⟩|19=>some ⟨[⟨[],[],[],[],20000,[]⟩],true⟩|_=>none,fun i=>match i with  | _=>none,fun _=>none,fun _=>false⟩
def T43 (k:Nat):TB:=(T42 k).ad ((T42 k).k k 349 Tryz.f349 (C43 k) h43)
def C44 (k:Nat):Ctr:=⟨q45,[0],[q44],fun x=>xW k x.1 x.2.1 x.2.2⟩
def T44 (k:Nat):TB:=(T43 k).ad ((T43 k).k k 277 Tryz.f277 (C44 k) noH)
def C45 (k:Nat):Ctr:=⟨⟨[(0,q81),(1,.one (.clo true 196 [(.ptr 0 0)]))],[(0,q32),(1,q35)],[],[],2,q82⟩,[0],[q48],fun x=>yD k x.1 x.2.1 x.2.2⟩
def h45:Hints:=⟨fun i=>match i with  | _=>none,fun i=>match i with|2=>some ⟨[⟨[(8,q13)],[(0,q32)],[],[],3000,[.n,.o (.st .zn)]⟩],0,[q49],true⟩|_=>none,fun _=>none,fun _=>false⟩
def T45 (k:Nat):TB:=(T44 k).ad ((T44 k).k k 351 Tryz.f351 (C45 k) h45)
def C46 (k:Nat) (r:zf):Ctr:=⟨q83,[0,1],[q80],fun x=>r.yX x.1 x.2⟩
def C47 (k:Nat) (r:zf):Ctr:=⟨⟨[(0,q30),(1,q84)],[(0,.box [.cell q31]),(1,q57),(2,.rd (.box [.cell (.leaf (.ptr 3 0))])),(3,.box [.part (.st .zn),.cell q67]),(4,q34)],[],[],5,q85⟩,[0,1,3,4],[⟨.tu [],[(0,.box [.cell q61]),(5,q57),(3,.box [.part (.st .zn),.cell q64]),(6,q34)],[1,4],7,q85⟩],fun x=>r.vG x.1 x.2.1 x.2.2⟩
def C48 (k:Nat) (r:zf):Ctr:=⟨⟨[(0,q30),(1,q10),(2,.one (.clo true 349 [(.ptr 0 0)])),(3,.one (.clo false 350 [(.ptr 2 0),(.ptr 4 0)]))],[(0,q32),(1,q34),(2,.box [.cell q86]),(3,q57),(4,q66)],[],[],5,[.o .int,.o (.st .zn),.o (.sl (.st .Node)),.o (.sl .int)]⟩,[0,1,2,3],[⟨.tu [],[(0,q62),(5,q34),(2,.box [.cell q64]),(6,q57)],[1,3],7,q87⟩],fun x=>r.vH x.1 x.2.1 x.2.2.1 x.2.2.2⟩
def h48:Hints:=⟨fun i=>match i with|8=>some ⟨[⟨[],[(0,q88)],[],[],9000,q43⟩],false⟩|_=>none,fun i=>match i with|2=>some ⟨[⟨[(8,q13)],[(0,q88),(3000,q34),(2,.box [.cell (.leaf (.row 3001))]),(3001,q57)],[],[1,3],3002,[.n,.o (.st .zn),.o (.sl (.st .Node)),.o (.sl .int)]⟩],0,[⟨[],[(0,.box [.part (.st .zn),.cell q73]),(3500,q34),(2,.box [.cell (.leaf (.row 3501))]),(3501,q57)],[],[1,3],3502,q87⟩],true⟩|_=>none,fun _=>none,fun _=>false⟩
def C49 (k:Nat) (r:zf):Ctr:=⟨q83,[0,1],[q89],fun x=>r.xU x.1 x.2⟩
def C50 (k:Nat) (r:zf):Ctr:=⟨q83,[0,1],[q80],fun x=>r.qI x.1 x.2⟩
def h50:Hints:=⟨fun i=>match i with|10=>some ⟨[⟨[(39,q4)],[],[],[],11000,q6⟩],false⟩|18=>some ⟨[⟨[(78,q4)],[],[],[],19000,q6⟩],false⟩|26=>some ⟨[⟨[(6,q10)],[(0,.box [.part (.st .zn),.cell (.leaf (.row 27000))]),(27000,q34)],[],[1],27001,q39⟩],false⟩|_=>none,fun i=>match i with  | _=>none,fun _=>none,fun _=>false⟩
def C51 (k:Nat) (r:zf):Ctr:=⟨q83,[0,1],[q80],fun x=>r.wu x.1 x.2⟩
def h51:Hints:=⟨fun i=>match i with|9=>some ⟨[⟨[(5,q10)],[(0,.box [.part (.st .zn),.cell q90]),(10000,q34)],[],[1],10001,q39⟩],false⟩|_=>none,fun i=>match i with|2=>some ⟨[⟨[(7,q13)],[],[],[],3000,[.n]⟩],0,[q23],true⟩|_=>none,fun _=>none,fun _=>false⟩
def C52 (k:Nat) (r:zf):Ctr:=⟨⟨[(0,q30),(1,.one (.clo true 368 [(.ptr 0 0)])),(2,q81)],[(0,q32),(1,q34)],[],[],2,q82⟩,[0,1],[q80],fun x=>r.kP x.1 x.2.1 x.2.2⟩
def h52:Hints:=⟨fun i=>match i with  | _=>none,fun i=>match i with|2=>some ⟨[q91],0,[],true⟩|_=>none,fun _=>none,fun _=>false⟩
def C53 (k:Nat) (r:zf):Ctr:=⟨q83,[0,1],[q80],fun x=>r.uD x.1 x.2⟩
def C54 (k:Nat) (r:zf):Ctr:=⟨⟨[(0,q30),(1,.one (.clo true 365 [(.ptr 0 0)])),(2,q81)],[(0,q32),(1,q34)],[],[],2,q82⟩,[0,1],[q80],fun x=>r.qF x.1 x.2.1 x.2.2⟩
def h54:Hints:=⟨fun i=>match i with  | _=>none,fun i=>match i with|2=>some ⟨[q91],0,[],true⟩|_=>none,fun _=>none,fun _=>false⟩
def C55 (k:Nat) (r:zf):Ctr:=⟨q83,[0,1],[q80],fun x=>r.jE x.1 x.2⟩
def C56 (k:Nat) (r:zf):Ctr:=⟨q83,[0,1],[q80],fun x=>r.uT x.1 x.2⟩
def C57 (k:Nat) (r:zf):Ctr:=⟨⟨[(0,q30),(1,.one (.clo true 352 [(.ptr 0 0)])),(2,q81)],[(0,q32),(1,q34)],[],[],2,q82⟩,[0,1],[q80],fun x=>r.qG x.1 x.2.1 x.2.2⟩
def h57:Hints:=⟨fun i=>match i with  | _=>none,fun i=>match i with|2=>some ⟨[q91],0,[],true⟩|_=>none,fun _=>none,fun _=>false⟩
def C58 (k:Nat) (r:zf):Ctr:=⟨q83,[0,1],[q80],fun x=>r.uw x.1 x.2⟩
def C59 (k:Nat) (r:zf):Ctr:=⟨⟨[(0,q30),(1,.one (.clo true 346 [(.ptr 0 0)])),(2,q81)],[(0,q32),(1,q34)],[],[],2,q82⟩,[0,1],[q80],fun x=>r.qH x.1 x.2.1 x.2.2⟩
def h59:Hints:=⟨fun i=>match i with  | _=>none,fun i=>match i with|2=>some ⟨[q91],0,[],true⟩|_=>none,fun _=>none,fun _=>false⟩
def T46 (k:Nat):TB:=(T45 k).scc k zf.zero (zf.step k) [⟨329,C46 k⟩,⟨350,C47 k⟩,⟨200,C48 k⟩,⟨344,C49 k⟩,⟨369,C50 k⟩,⟨368,C51 k⟩,⟨345,C52 k⟩,⟨365,C53 k⟩,⟨345,C54 k⟩,⟨359,C55 k⟩,⟨352,C56 k⟩,⟨345,C57 k⟩,⟨346,C58 k⟩,⟨345,C59 k⟩] (gc (gc (gc (gc (gc (gc (gc (gc (gc (gc (gc (gc (gc (gc (gn) Tryz.f345 h59) Tryz.f346 noH) Tryz.f345 h57) Tryz.f352 noH) Tryz.f359 noH) Tryz.f345 h54) Tryz.f365 noH) Tryz.f345 h52) Tryz.f368 h51) Tryz.f369 h50) Tryz.f344 noH) Tryz.f200 h48) Tryz.f350 noH) Tryz.f329 noH)
def C60 (k:Nat):Ctr:=⟨q83,[0,1],[q80],fun x=>kN k x.1 x.2⟩
def T47 (k:Nat):TB:=(T46 k).ad ((T46 k).k k 327 Tryz.f327 (C60 k) noH)
def C61 (k:Nat):Ctr:=⟨q83,[0,1],[q80],fun x=>jP k x.1 x.2⟩
def T48 (k:Nat):TB:=(T47 k).ad ((T47 k).k k 325 Tryz.f325 (C61 k) noH)
def C62 (k:Nat):Ctr:=⟨q79,[0,1],[q80],fun x=>yJ k x.1 x.2.1 x.2.2⟩
def T49 (k:Nat):TB:=(T48 k).ad ((T48 k).k k 326 Tryz.f326 (C62 k) noH)
def C63 (k:Nat):Ctr:=⟨q92,[0,1],[q89],fun x=>wE k x.1 x.2.1 x.2.2⟩
def h63:Hints:=⟨fun i=>match i with|8=>some ⟨[⟨[],[(0,q93)],[],[],9000,q43⟩],false⟩|_=>none,fun i=>match i with|4=>some ⟨[⟨[(5,q28),(10,q13)],[(5000,q57),(0,q93),(5001,q34)],[],[1],5002,[.n,.o (.sl .int),.o (.st .zn),.o (.sl (.st .Node))]⟩],0,[⟨[(5,.one q29)],[(5500,q57),(0,.box [.part (.st .zn),.cell (.leaf (.row 5501))]),(5501,q34)],[],[1],5502,q85⟩],false⟩|_=>none,fun _=>none,fun _=>false⟩
def T50 (k:Nat):TB:=(T49 k).ad ((T49 k).k k 330 Tryz.f330 (C63 k) h63)
def C64 (k:Nat):Ctr:=⟨q96,[],[q12],fun x=>XT k x⟩
def h64:Hints:=⟨fun i=>match i with|12=>some ⟨[⟨[(9,q10)],[],[],[],13000,[.o .int]⟩],false⟩|24=>some ⟨[⟨[(56,q4)],[],[],[],25000,q6⟩],false⟩|25=>some ⟨[⟨[(6,q10)],[],[],[],26000,[.o .int]⟩],false⟩|_=>none,fun i=>match i with|3=>some ⟨[⟨[(15,q13)],[(0,q57)],[],[],4000,q97⟩],0,[⟨[],[(0,q57)],[],[],4500,q98⟩],false⟩|7=>some ⟨[⟨[(6,q10),(23,q13)],[],[],[],8000,[.o .int,.n]⟩],2,[⟨[(6,q10)],[],[],[],8500,[.o .int]⟩],false⟩|_=>none,fun _=>none,fun _=>false⟩
def T51 (k:Nat):TB:=(T50 k).ad ((T50 k).k k 210 Tryz.f210 (C64 k) h64)
def C65 (k:Nat) (r:zB):Ctr:=⟨⟨[(0,q30),(1,q4)],[(0,q32),(1,q34)],[],[],2,q99⟩,[0,1],[q80],fun x=>r.wL x.1 x.2.1 x.2.2⟩
def h65:Hints:=⟨fun i=>match i with|10=>some ⟨[⟨[],[(0,.box [.part (.st .zn),.cell (.leaf (.row 4504))])],[],[],11000,q43⟩],false⟩|_=>none,fun i=>match i with|3=>some ⟨[⟨[],[(0,.box [.part (.st .zn),.cell q19]),(4000,q34),(2,.box [.cell (.leaf (.num .i64 18)),.cell q0,.part (.st .Value),.cell (.leaf (.row 4001))]),(4001,q57)],[],[1],4002,q100⟩],0,[⟨[],[(0,.box [.part (.st .zn),.cell q101]),(4500,q34),(2,.box [.cell (.leaf (.num .i64 18)),.cell q0,.part (.st .Value),.cell (.leaf (.row 4501))]),(4501,q57)],[],[1],4502,q100⟩],false⟩|_=>none,fun _=>none,fun _=>false⟩
def C66 (k:Nat) (r:zB):Ctr:=⟨q92,[0,1],[q80],fun x=>r.xC x.1 x.2.1 x.2.2⟩
def h66:Hints:=⟨fun i=>match i with|7=>some ⟨[⟨[(5,.one q102)],[(8000,q57),(0,.box [.part (.st .zn),.cell (.leaf (.row 8001))]),(8001,q34)],[],[8,10],8002,q85⟩],false⟩|_=>none,fun i=>match i with  | _=>none,fun _=>none,fun i=>match i with|5=>true|_=>false⟩
def C67 (k:Nat) (r:zB):Ctr:=⟨q83,[0,1],[q80],fun x=>r.uy x.1 x.2⟩
def h67:Hints:=⟨fun i=>match i with|21=>some ⟨[⟨[],[(0,.box [.part (.st .zn),.cell (.leaf (.row 22000))]),(22000,q34),(8,.box [.cell (.leaf (.num .i64 13)),.cell q0,.part (.st .Value),.cell (.leaf (.row 22001))]),(22001,q57)],[],[1],22002,q100⟩],false⟩|_=>none,fun i=>match i with  | _=>none,fun _=>none,fun _=>false⟩
def T52 (k:Nat):TB:=(T51 k).scc k zB.zero (zB.step k) [⟨203,C65 k⟩,⟨328,C66 k⟩,⟨275,C67 k⟩] (gc (gc (gc (gn) Tryz.f275 h67) Tryz.f328 h66) Tryz.f203 h65)
def C68 (k:Nat):Ctr:=⟨⟨[(0,q30)],[(0,q104)],[],[],1,q36⟩,[],[q105],fun x=>vN k x.1 x.2⟩
def T53 (k:Nat):TB:=(T52 k).ad ((T52 k).k k 52 Tryz.f52 (C68 k) noH)
def C69 (k:Nat):Ctr:=⟨⟨[(0,q30),(1,q10)],[(0,q104)],[],[],1,q39⟩,[],[⟨q40,[],[],1,[.o (.st .Token)]⟩],fun x=>yU k x.1 x.2.1 x.2.2⟩
def T54 (k:Nat):TB:=(T53 k).ad ((T53 k).k k 127 Tryz.f127 (C69 k) noH)
def C70 (k:Nat):Ctr:=⟨⟨[(0,q30),(1,q1)],[(0,q104)],[],[],1,q41⟩,[],[q105],fun x=>yC k x.1 x.2.1 x.2.2⟩
def T55 (k:Nat):TB:=(T54 k).ad ((T54 k).k k 53 Tryz.f53 (C70 k) noH)
def C71 (k:Nat):Ctr:=⟨q106,[0],[q107],fun x=>zU k x.1 x.2.1 x.2.2⟩
def T56 (k:Nat):TB:=(T55 k).ad ((T55 k).k k 54 Tryz.f54 (C71 k) noH)
def C72 (k:Nat):Ctr:=⟨q108,[0],[⟨q5,[(0,q103)],[],1,q99⟩],fun x=>yu k x.1 x.2.1 x.2.2⟩
def T57 (k:Nat):TB:=(T56 k).ad ((T56 k).k k 196 Tryz.f196 (C72 k) noH)
def C73 (k:Nat):Ctr:=⟨q108,[0],[q107],fun x=>zO k x.1 x.2.1 x.2.2⟩
def T58 (k:Nat):TB:=(T57 k).ad ((T57 k).k k 128 Tryz.f128 (C73 k) noH)
def C74 (k:Nat):Ctr:=⟨q106,[0],[⟨q40,[(0,q103)],[],1,[.o (.st .Token),.o (.st .zn),.o (.sl (.st .Node))]⟩],fun x=>wP k x.1 x.2.1 x.2.2⟩
def T59 (k:Nat):TB:=(T58 k).ad ((T58 k).k k 197 Tryz.f197 (C74 k) noH)
def C75 (k:Nat):Ctr:=⟨q109,[0],[⟨q47,[(0,q103)],[],1,q41⟩],fun x=>wO k x.1 x.2⟩
def T60 (k:Nat):TB:=(T59 k).ad ((T59 k).k k 129 Tryz.f129 (C75 k) noH)
def C76 (k:Nat):Ctr:=⟨q110,[],[q38],fun x=>X9 k x.1 x.2⟩
def T61 (k:Nat):TB:=(T60 k).ad ((T60 k).k k 201 Tryz.f201 (C76 k) noH)
def C77 (k:Nat):Ctr:=⟨q109,[0],[q111],fun x=>vX k x.1 x.2⟩
def h77:Hints:=⟨fun i=>match i with  | _=>none,fun i=>match i with|2=>some ⟨[⟨[(6,q13)],[(0,q103)],[],[],3000,[.n,.o (.st .zn),.o (.sl (.st .Node))]⟩],0,[⟨[],[(0,q103)],[],[],3500,q36⟩],true⟩|_=>none,fun _=>none,fun _=>false⟩
def T62 (k:Nat):TB:=(T61 k).ad ((T61 k).k k 198 Tryz.f198 (C77 k) h77)
def C78 (k:Nat):Ctr:=⟨⟨[(0,q30),(1,q84)],[(0,q50),(1,q103),(2,q112),(3,q113),(4,q35)],[],[],5,[.o (.st .zn),.o (.sl (.st .Node)),.o .str,.o .int,.o (.sl (.st .Param)),.o (.sl (.st .Node))]⟩,[1,2,3],[⟨.tu [],[(1,q103),(2,q114),(5,q113)],[3],6,q115⟩],fun x=>ZX k x.1 x.2.1 x.2.2.1 x.2.2.2.1 x.2.2.2.2.1 x.2.2.2.2.2⟩
def T63 (k:Nat):TB:=(T62 k).ad ((T62 k).k k 202 Tryz.f202 (C78 k) noH)
def C79 (k:Nat):Ctr:=⟨⟨[(0,q30),(1,q10),(2,.one (.clo false 201 [(.ptr 1 0)])),(3,.one (.clo false 202 [(.ptr 1 0),(.ptr 2 0)]))],[(0,q103),(1,q66),(2,q112),(3,q113),(4,q35)],[],[],5,[.o .int,.o (.st .zn),.o (.sl (.st .Node)),.o .str,.o .int,.o (.sl (.st .Param)),.o (.sl (.st .Node))]⟩,[0,2,3],[⟨.tu [],[(0,q103),(2,q114),(5,q113)],[3],6,q115⟩],fun x=>ql k x.1 x.2.1 x.2.2.1 x.2.2.2.1 x.2.2.2.2.1 x.2.2.2.2.2.1 x.2.2.2.2.2.2⟩
def h79:Hints:=⟨fun i=>match i with|8=>some ⟨[q116],false⟩|_=>none,fun i=>match i with|2=>some ⟨[⟨[(8,q13)],[(0,q103),(2,.box [.cell q0,.cell q72,.cell q9,.cell q67]),(3000,q113)],[],[3],3001,[.n,.o (.st .zn),.o (.sl (.st .Node)),.o .str,.o .int,.o (.sl (.st .Param))]⟩],0,[⟨[],[(0,q103),(2,.box [.cell q0,.cell q73,.cell q9,.cell q67]),(3500,q113)],[],[3],3501,q115⟩],true⟩|_=>none,fun _=>none,fun _=>false⟩
def T64 (k:Nat):TB:=(T63 k).ad ((T63 k).k k 200 Tryz.f200 (C79 k) h79)
def C80 (k:Nat):Ctr:=⟨q109,[0],[⟨.one (.ag [.cell q0,.cell q31,.cell q9,.cell q51]),[(1,q113),(2,q34),(0,q52)],[],3,[.o .str,.o .int,.o (.sl (.st .Param)),.o (.sl (.st .Node)),.o (.st .zn)]⟩],fun x=>jd k x.1 x.2⟩
def h80:Hints:=⟨fun i=>match i with|8=>some ⟨[⟨[],[(0,q103),(5,.box [.cell q0,.cell (.leaf (.row 10)),.cell q9,.cell (.leaf (.row 8))])],[],[],9000,[.o (.st .zn),.o (.sl (.st .Node)),.o .str,.o .int]⟩],false⟩|_=>none,fun i=>match i with  | _=>none,fun _=>none,fun _=>false⟩
def T65 (k:Nat):TB:=(T64 k).ad ((T64 k).k k 131 Tryz.f131 (C80 k) h80)
def C81 (k:Nat):Ctr:=⟨q110,[],[q38],fun x=>Yt k x.1 x.2⟩
def T66 (k:Nat):TB:=(T65 k).ad ((T65 k).k k 269 Tryz.f269 (C81 k) noH)
def C82 (k:Nat):Ctr:=⟨q109,[0],[q111],fun x=>vW k x.1 x.2⟩
def T67 (k:Nat):TB:=(T66 k).ad ((T66 k).k k 271 Tryz.f271 (C82 k) noH)
def C83 (k:Nat):Ctr:=⟨⟨[(0,q30),(1,q55)],[(0,q56),(1,q57),(2,q59),(3,q60),(4,q103)],[],[],5,q63⟩,[0,1,4],[⟨.tu [],[(0,.box [.cell q9,.cell q9,.cell q0,.cell q61,.cell q51]),(5,q57),(4,q103)],[1],6,[.o .int,.o .int,.o .str,.o (.sl .int),.o (.st .zn),.o (.sl (.st .Node))]⟩],fun x=>jL k x.1 x.2.1 x.2.2.1 x.2.2.2.1 x.2.2.2.2.1 x.2.2.2.2.2.1 x.2.2.2.2.2.2⟩
def T68 (k:Nat):TB:=(T67 k).ad ((T67 k).k k 270 Tryz.f270 (C83 k) noH)
def C84 (k:Nat):Ctr:=⟨⟨[(0,q30),(1,q10),(2,.one (.clo false 269 [(.ptr 1 0)])),(3,.one (.clo false 270 [(.ptr 2 0),(.ptr 1 0)]))],[(0,q103),(1,q66),(2,q117),(3,q57),(4,q59)],[],[],5,q69⟩,[0,2,3],[⟨.tu [],[(0,q103),(2,.box [.cell q9,.cell q9,.cell q0,.cell q61,.cell q67]),(5,q57)],[3],6,q118⟩],fun x=>qm k x.1 x.2.1 x.2.2.1 x.2.2.2.1 x.2.2.2.2.1 x.2.2.2.2.2.1 x.2.2.2.2.2.2.1 x.2.2.2.2.2.2.2⟩
def h84:Hints:=⟨fun i=>match i with|8=>some ⟨[q116],false⟩|_=>none,fun i=>match i with|2=>some ⟨[⟨[(8,q13)],[(0,q103),(2,.box [.cell q9,.cell q9,.cell q0,.cell q72,.cell q67]),(3000,q57)],[],[3],3001,[.n,.o (.st .zn),.o (.sl (.st .Node)),.o .int,.o .int,.o .str,.o (.sl .int)]⟩],0,[⟨[],[(0,q103),(2,.box [.cell q9,.cell q9,.cell q0,.cell q73,.cell q67]),(3500,q57)],[],[3],3501,q118⟩],true⟩|_=>none,fun _=>none,fun _=>false⟩
def T69 (k:Nat):TB:=(T68 k).ad ((T68 k).k k 200 Tryz.f200 (C84 k) h84)
def C85 (k:Nat):Ctr:=⟨q110,[],[q38],fun x=>Yu k x.1 x.2⟩
def T70 (k:Nat):TB:=(T69 k).ad ((T69 k).k k 272 Tryz.f272 (C85 k) noH)
def C86 (k:Nat):Ctr:=⟨⟨[(0,q30),(1,q55)],[(0,q56),(1,q74),(2,q58),(3,q60),(4,q103)],[],[],5,q63⟩,[0,2,4],[⟨.tu [],[(0,.box [.cell q9,.cell q9,.cell q0,.cell q31,.cell q61]),(5,q58),(4,q103)],[2],6,[.o .int,.o .int,.o .str,.o (.sl .str),.o (.st .zn),.o (.sl (.st .Node))]⟩],fun x=>jM k x.1 x.2.1 x.2.2.1 x.2.2.2.1 x.2.2.2.2.1 x.2.2.2.2.2.1 x.2.2.2.2.2.2⟩
def T71 (k:Nat):TB:=(T70 k).ad ((T70 k).k k 273 Tryz.f273 (C86 k) noH)
def C87 (k:Nat):Ctr:=⟨⟨[(0,q30),(1,q10),(2,.one (.clo false 272 [(.ptr 1 0)])),(3,.one (.clo false 273 [(.ptr 2 0),(.ptr 1 0)]))],[(0,q103),(1,q66),(2,q117),(3,q74),(4,q58)],[],[],5,q69⟩,[0,2,4],[⟨.tu [],[(0,q103),(2,.box [.cell q9,.cell q9,.cell q0,.cell q86,.cell q61]),(5,q58)],[4],6,q119⟩],fun x=>qo k x.1 x.2.1 x.2.2.1 x.2.2.2.1 x.2.2.2.2.1 x.2.2.2.2.2.1 x.2.2.2.2.2.2.1 x.2.2.2.2.2.2.2⟩
def h87:Hints:=⟨fun i=>match i with|8=>some ⟨[q116],false⟩|_=>none,fun i=>match i with|2=>some ⟨[⟨[(8,q13)],[(0,q103),(2,.box [.cell q9,.cell q9,.cell q0,.cell q86,.cell q72]),(3000,q58)],[],[4],3001,[.n,.o (.st .zn),.o (.sl (.st .Node)),.o .int,.o .int,.o .str,.o (.sl .str)]⟩],0,[⟨[],[(0,q103),(2,.box [.cell q9,.cell q9,.cell q0,.cell q86,.cell q73]),(3500,q58)],[],[4],3501,q119⟩],true⟩|_=>none,fun _=>none,fun _=>false⟩
def T72 (k:Nat):TB:=(T71 k).ad ((T71 k).k k 200 Tryz.f200 (C87 k) h87)
def C88 (k:Nat):Ctr:=⟨q109,[0],[⟨q77,[(0,q103)],[],1,[.o (.st .Value),.o (.st .zn),.o (.sl (.st .Node))]⟩],fun x=>qj k x.1 x.2⟩
def T73 (k:Nat):TB:=(T72 k).ad ((T72 k).k k 199 Tryz.f199 (C88 k) noH)
def C89 (k:Nat):Ctr:=⟨q109,[0],[⟨.one (q120),[(0,q103)],[],1,[.o (.st .Field),.o (.st .zn),.o (.sl (.st .Node))]⟩],fun x=>jO k x.1 x.2⟩
def h89:Hints:=⟨fun i=>match i with|9=>some ⟨[⟨[],[(0,q103)],[],[],10000,q36⟩],false⟩|_=>none,fun i=>match i with  | _=>none,fun _=>none,fun _=>false⟩
def T74 (k:Nat):TB:=(T73 k).ad ((T73 k).k k 130 Tryz.f130 (C89 k) h89)
def C90 (k:Nat):Ctr:=⟨q109,[0],[⟨q121,[(1,q122),(2,q123),(0,q103)],[],3,[.o .str,.o (.sl (.st .Field)),.o (.sl (.st .Method)),.o (.st .zn),.o (.sl (.st .Node))]⟩],fun x=>ZG k x.1 x.2⟩
def h90:Hints:=⟨fun i=>match i with|7=>some ⟨[⟨[],[(0,q103)],[],[],8000,q36⟩],false⟩|11=>some ⟨[⟨[],[(0,q103)],[],[],12000,q36⟩],false⟩|_=>none,fun i=>match i with|4=>some ⟨[⟨[],[(0,q103),(4,.box [.cell q0,.cell q27,.cell q124]),(5000,q122)],[],[],5001,q125⟩],0,[⟨[],[(0,q103),(4,.box [.cell q0,.cell q29,.cell q124]),(5500,q122)],[],[],5501,q125⟩],false⟩|8=>some ⟨[⟨[],[(0,q103),(4,.box [.cell q0,.cell q29,.cell (.leaf (.row 9000))]),(9000,q123)],[],[],9001,q126⟩],2,[⟨[],[(0,q103),(4,.box [.cell q0,.cell q29,.cell (.leaf (.row 9500))]),(9500,q123)],[],[],9501,q126⟩],false⟩|_=>none,fun _=>none,fun _=>false⟩
def T75 (k:Nat):TB:=(T74 k).ad ((T74 k).k k 55 Tryz.f55 (C90 k) h90)
def C91 (k:Nat):Ctr:=⟨⟨[(0,.one (.leaf (.val (.sl (.st .Token))))),(1,q10)],[],[],[],0,[.o (.sl (.st .Token)),.o .int]⟩,[],[q128],fun x=>UL k x.1 x.2⟩
def h91:Hints:=⟨fun i=>match i with|5=>some ⟨[⟨[],[(1,q103)],[],[],6000,q36⟩],false⟩|_=>none,fun i=>match i with|2=>some ⟨[⟨[],[(0,.box [.cell q72]),(3000,.row 77 (.st .zF)),(1,q103)],[],[],3001,q129⟩],0,[⟨[],[(0,.box [.cell q73]),(3500,.row 77 (.st .zF)),(1,q103)],[],[],3501,q129⟩],false⟩|_=>none,fun _=>none,fun _=>false⟩
def T76 (k:Nat):TB:=(T75 k).ad ((T75 k).k k 15 Tryz.f15 (C91 k) h91)
def C92 (k:Nat):Ctr:=⟨q16,[],[q128],fun x=>XQ k x⟩
def T77 (k:Nat):TB:=(T76 k).ad ((T76 k).k k 5 Tryz.f5 (C92 k) noH)
def C93 (k:Nat):Ctr:=⟨q130,[],[q7],fun x=>XU k x⟩
def T78 (k:Nat):TB:=(T77 k).ad ((T77 k).k k 205 Tryz.f205 (C93 k) noH)
def C94 (k:Nat):Ctr:=⟨q132,[],[q7],fun x=>vJ k x⟩
def h94:Hints:=⟨fun i=>match i with|8=>some ⟨[⟨[(32,q4)],[],[],[],9000,q6⟩],false⟩|_=>none,fun i=>match i with|12=>some ⟨[⟨[(78,q13)],[],[],[],13000,[.n]⟩],1,[⟨[],[],[],[],13500,[]⟩],true⟩|_=>none,fun _=>none,fun _=>false⟩
def T79 (k:Nat):TB:=(T78 k).ad ((T78 k).k k 79 Tryz.f79 (C94 k) h94)
def C95 (k:Nat):Ctr:=⟨q134,[],[q12],fun x=>Y0 k x.1 x.2⟩
def h95:Hints:=⟨fun i=>match i with  | _=>none,fun i=>match i with|2=>some ⟨[q135],0,[q23],true⟩|_=>none,fun _=>none,fun _=>false⟩
def T80 (k:Nat):TB:=(T79 k).ad ((T79 k).k k 278 Tryz.f278 (C95 k) h95)
def C96 (k:Nat):Ctr:=⟨q134,[],[q7],fun x=>jm k x.1 x.2⟩
def T81 (k:Nat):TB:=(T80 k).ad ((T80 k).k k 206 Tryz.f206 (C96 k) noH)
def C97 (k:Nat):Ctr:=⟨q136,[],[q7],fun x=>YJ k x⟩
def T82 (k:Nat):TB:=(T81 k).ad ((T81 k).k k 135 Tryz.f135 (C97 k) noH)
def C98 (k:Nat):Ctr:=⟨q136,[],[q7],fun x=>KG k x⟩
def T83 (k:Nat):TB:=(T82 k).ad ((T82 k).k k 134 Tryz.f134 (C98 k) noH)
def C99 (k:Nat):Ctr:=⟨q138,[],[q12],fun x=>vF k x⟩
def h99:Hints:=⟨fun i=>match i with  | _=>none,fun i=>match i with|2=>some ⟨[q135],0,[q23],true⟩|_=>none,fun _=>none,fun _=>false⟩
def T84 (k:Nat):TB:=(T83 k).ad ((T83 k).k k 204 Tryz.f204 (C99 k) h99)
def C100 (k:Nat):Ctr:=⟨q138,[],[q7],fun x=>xq k x⟩
def T85 (k:Nat):TB:=(T84 k).ad ((T84 k).k k 133 Tryz.f133 (C100 k) noH)
def C101 (k:Nat):Ctr:=⟨⟨[(0,q139)],[],[],[],0,[.o (.st .Method)]⟩,[],[q7],fun x=>Yf k x⟩
def h101:Hints:=⟨fun i=>match i with  | _=>none,fun i=>match i with|4=>some ⟨[⟨[(29,q13)],[],[],[],5000,[.n]⟩],0,[q140],true⟩|_=>none,fun _=>none,fun _=>false⟩
def T86 (k:Nat):TB:=(T85 k).ad ((T85 k).k k 136 Tryz.f136 (C101 k) h101)
def C102 (k:Nat):Ctr:=⟨q141,[],[q7],fun x=>yx k x.1 x.2⟩
def h102:Hints:=⟨fun i=>match i with  | _=>none,fun i=>match i with|4=>some ⟨[q142],0,[q140],true⟩|_=>none,fun _=>none,fun _=>false⟩
def T87 (k:Nat):TB:=(T86 k).ad ((T86 k).k k 144 Tryz.f144 (C102 k) h102)
def C103 (k:Nat):Ctr:=⟨q96,[],[q7],fun x=>Xm k x⟩
def h103:Hints:=⟨fun i=>match i with  | _=>none,fun i=>match i with|3=>some ⟨[⟨[(3,q20),(9,q13)],[(4000,q57)],[],[],4001,q97⟩],0,[⟨[(3,q143)],[(4500,q57)],[],[],4501,q98⟩],true⟩|_=>none,fun _=>none,fun _=>false⟩
def T88 (k:Nat):TB:=(T87 k).ad ((T87 k).k k 207 Tryz.f207 (C103 k) h103)
def C104 (k:Nat):Ctr:=⟨⟨[(0,q10),(1,q10),(2,q30)],[(0,q145)],[],[],1,[.o .int,.o .int,.o (.st .Node)]⟩,[],[q105],fun x=>wU k x.1 x.2.1 x.2.2⟩
def T89 (k:Nat):TB:=(T88 k).ad ((T88 k).k k 279 Tryz.f279 (C104 k) noH)
def C105 (k:Nat):Ctr:=⟨q130,[],[q7],fun x=>jD k x⟩
def T90 (k:Nat):TB:=(T89 k).ad ((T89 k).k k 281 Tryz.f281 (C105 k) noH)
def C106 (k:Nat):Ctr:=⟨⟨[(0,q10),(1,.one (.clo false 281 [])),(2,q30),(3,q146)],[(0,q145),(1,q147)],[],[],2,q148⟩,[],[q38],fun x=>kM k x.1 x.2.1 x.2.2⟩
def h106:Hints:=⟨fun i=>match i with  | _=>none,fun i=>match i with|2=>some ⟨[q149],0,[q23],true⟩|_=>none,fun _=>none,fun _=>false⟩
def T91 (k:Nat):TB:=(T90 k).ad ((T90 k).k k 280 Tryz.f280 (C106 k) h106)
def C107 (k:Nat):Ctr:=⟨q130,[],[q7],fun x=>QY k x⟩
def T92 (k:Nat):TB:=(T91 k).ad ((T91 k).k k 282 Tryz.f282 (C107 k) noH)
def C108 (k:Nat):Ctr:=⟨⟨[(0,q10),(1,.one (.clo false 282 [])),(2,q30),(3,q146)],[(0,q145),(1,q147)],[],[],2,q148⟩,[],[q38],fun x=>Je k x.1 x.2.1 x.2.2⟩
def h108:Hints:=⟨fun i=>match i with  | _=>none,fun i=>match i with|2=>some ⟨[q149],0,[q23],true⟩|_=>none,fun _=>none,fun _=>false⟩
def T93 (k:Nat):TB:=(T92 k).ad ((T92 k).k k 280 Tryz.f280 (C108 k) h108)
def C109 (k:Nat):Ctr:=⟨q130,[],[q7],fun x=>QZ k x⟩
def T94 (k:Nat):TB:=(T93 k).ad ((T93 k).k k 283 Tryz.f283 (C109 k) noH)
def C110 (k:Nat):Ctr:=⟨⟨[(0,q10),(1,.one (.clo false 283 [])),(2,q30),(3,q146)],[(0,q145),(1,q147)],[],[],2,q148⟩,[],[q38],fun x=>Jf k x.1 x.2.1 x.2.2⟩
def h110:Hints:=⟨fun i=>match i with  | _=>none,fun i=>match i with|2=>some ⟨[q149],0,[q23],true⟩|_=>none,fun _=>none,fun _=>false⟩
def T95 (k:Nat):TB:=(T94 k).ad ((T94 k).k k 280 Tryz.f280 (C110 k) h110)
def C111 (k:Nat):Ctr:=⟨q130,[],[q7],fun x=>Q5 k x⟩
def T96 (k:Nat):TB:=(T95 k).ad ((T95 k).k k 284 Tryz.f284 (C111 k) noH)
def C112 (k:Nat):Ctr:=⟨⟨[(0,q10),(1,.one (.clo false 284 [])),(2,q30),(3,q146)],[(0,q145),(1,q147)],[],[],2,q148⟩,[],[q38],fun x=>Jg k x.1 x.2.1 x.2.2⟩
def h112:Hints:=⟨fun i=>match i with  | _=>none,fun i=>match i with|2=>some ⟨[q149],0,[q23],true⟩|_=>none,fun _=>none,fun _=>false⟩
def T97 (k:Nat):TB:=(T96 k).ad ((T96 k).k k 280 Tryz.f280 (C112 k) h112)
def C113 (k:Nat):Ctr:=⟨q130,[],[q7],fun x=>Vg k x⟩
def T98 (k:Nat):TB:=(T97 k).ad ((T97 k).k k 285 Tryz.f285 (C113 k) noH)
def C114 (k:Nat):Ctr:=⟨⟨[(0,q10),(1,.one (.clo false 285 [])),(2,q30),(3,q146)],[(0,q145),(1,q147)],[],[],2,q148⟩,[],[q38],fun x=>Jh k x.1 x.2.1 x.2.2⟩
def h114:Hints:=⟨fun i=>match i with  | _=>none,fun i=>match i with|2=>some ⟨[q149],0,[q23],true⟩|_=>none,fun _=>none,fun _=>false⟩
def T99 (k:Nat):TB:=(T98 k).ad ((T98 k).k k 280 Tryz.f280 (C114 k) h114)
def C115 (k:Nat):Ctr:=⟨⟨[(0,q95),(1,q78)],[],[],[],0,[.o (.sl (.st .Node)),.o (.st .Node)]⟩,[],[q7],fun x=>QX k x.1 x.2⟩
def h115:Hints:=⟨fun i=>match i with|8=>some ⟨[⟨[(12,q4)],[],[],[],9000,q6⟩],false⟩|11=>some ⟨[⟨[(19,q4)],[],[],[],12000,q6⟩],false⟩|14=>some ⟨[⟨[(28,q4)],[],[],[],15000,q6⟩],false⟩|23=>some ⟨[⟨[(61,q4)],[],[],[],24000,q6⟩],false⟩|28=>some ⟨[⟨[(78,q4)],[],[],[],29000,q6⟩],false⟩|31=>some ⟨[⟨[(7,q13)],[],[],[],32000,[.n]⟩],false⟩|_=>none,fun i=>match i with  | _=>none,fun _=>none,fun _=>false⟩
def T100 (k:Nat):TB:=(T99 k).ad ((T99 k).k k 208 Tryz.f208 (C115 k) h115)
def C116 (k:Nat):Ctr:=⟨q141,[],[q7],fun x=>Jd k x.1 x.2⟩
def h116:Hints:=⟨fun i=>match i with  | _=>none,fun i=>match i with|4=>some ⟨[q142],0,[q140],true⟩|_=>none,fun _=>none,fun _=>false⟩
def T101 (k:Nat):TB:=(T100 k).ad ((T100 k).k k 158 Tryz.f158 (C116 k) h116)
def C117 (k:Nat):Ctr:=⟨q150,[],[q7],fun x=>Xp k x.1 x.2⟩
def h117:Hints:=⟨fun i=>match i with  | _=>none,fun i=>match i with|4=>some ⟨[q142],0,[q140],true⟩|_=>none,fun _=>none,fun _=>false⟩
def T102 (k:Nat):TB:=(T101 k).ad ((T101 k).k k 159 Tryz.f159 (C117 k) h117)
def C118 (k:Nat):Ctr:=⟨q151,[],[q7],fun x=>wQ k x.1 x.2⟩
def T103 (k:Nat):TB:=(T102 k).ad ((T102 k).k k 91 Tryz.f91 (C118 k) noH)
def C119 (k:Nat):Ctr:=⟨q151,[],[q7],fun x=>Wy k x.1 x.2⟩
def T104 (k:Nat):TB:=(T103 k).ad ((T103 k).k k 286 Tryz.f286 (C119 k) noH)
def C120 (k:Nat):Ctr:=⟨q152,[],[q12],fun x=>kG k x.1 x.2⟩
def h120:Hints:=⟨fun i=>match i with  | _=>none,fun i=>match i with|2=>some ⟨[q135],0,[q23],true⟩|_=>none,fun _=>none,fun _=>false⟩
def T105 (k:Nat):TB:=(T104 k).ad ((T104 k).k k 331 Tryz.f331 (C120 k) h120)
def C121 (k:Nat):Ctr:=⟨q152,[],[q7],fun x=>vK k x.1 x.2⟩
def T106 (k:Nat):TB:=(T105 k).ad ((T105 k).k k 287 Tryz.f287 (C121 k) noH)
def C122 (k:Nat):Ctr:=⟨⟨[(0,q78)],[],[],[],0,q153⟩,[],[q7],fun x=>XR k x⟩
def h122:Hints:=⟨fun i=>match i with|8=>some ⟨[⟨[(41,q4)],[],[],[],9000,q6⟩],false⟩|_=>none,fun i=>match i with  | _=>none,fun _=>none,fun _=>false⟩
def T107 (k:Nat):TB:=(T106 k).ad ((T106 k).k k 209 Tryz.f209 (C122 k) h122)
def C123 (k:Nat):Ctr:=⟨q96,[],[q7],fun x=>Xn k x⟩
def h123:Hints:=⟨fun i=>match i with  | _=>none,fun i=>match i with|4=>some ⟨[⟨[(20,q13)],[],[],[],5000,[.n]⟩],0,[q140],true⟩|_=>none,fun _=>none,fun _=>false⟩
def T108 (k:Nat):TB:=(T107 k).ad ((T107 k).k k 137 Tryz.f137 (C123 k) h123)
def C124 (k:Nat):Ctr:=⟨q154,[],[q7],fun x=>UM k x⟩
def h124:Hints:=⟨fun i=>match i with  | _=>none,fun i=>match i with|5=>some ⟨[⟨[(3,q13),(15,q13)],[],[],[],6000,[.n,.n]⟩],0,[q155],true⟩|10=>some ⟨[⟨[(3,q13),(43,q13)],[],[],[],11000,[.n,.n]⟩],2,[⟨[(3,q13)],[],[],[],11500,[.n]⟩],true⟩|_=>none,fun _=>none,fun _=>false⟩
def T109 (k:Nat):TB:=(T108 k).ad ((T108 k).k k 56 Tryz.f56 (C124 k) h124)
def C125 (k:Nat):Ctr:=⟨⟨[(0,q156),(1,q30)],[(0,q157)],[],[],1,[.o (.st .zF),.o (.st .zF)]⟩,[],[q105],fun x=>V7 k x.1 x.2⟩
def T110 (k:Nat):TB:=(T109 k).ad ((T109 k).k k 58 Tryz.f58 (C125 k) noH)
def C126 (k:Nat):Ctr:=⟨q159,[],[q160],fun x=>xQ k x.1 x.2⟩
def h126:Hints:=⟨fun i=>match i with  | _=>none,fun i=>match i with|2=>some ⟨[q135],0,[q23],true⟩|_=>none,fun _=>none,fun _=>false⟩
def T111 (k:Nat):TB:=(T110 k).ad ((T110 k).k k 86 Tryz.f86 (C126 k) h126)
def C127 (k:Nat):Ctr:=⟨q159,[],[q105],fun x=>yN k x.1 x.2⟩
def T112 (k:Nat):TB:=(T111 k).ad ((T111 k).k k 57 Tryz.f57 (C127 k) noH)
def C128 (k:Nat):Ctr:=⟨⟨[(0,q139),(1,q30)],[(0,.rd (.box [.part (.st .Method)]))],[],[],1,[.o (.st .Method),.o (.st .Method)]⟩,[],[q105],fun x=>V8 k x.1 x.2⟩
def T113 (k:Nat):TB:=(T112 k).ad ((T112 k).k k 60 Tryz.f60 (C128 k) noH)
def C129 (k:Nat):Ctr:=⟨q162,[],[q160],fun x=>wS k x.1 x.2⟩
def h129:Hints:=⟨fun i=>match i with  | _=>none,fun i=>match i with|2=>some ⟨[q135],0,[q23],true⟩|_=>none,fun _=>none,fun _=>false⟩
def T114 (k:Nat):TB:=(T113 k).ad ((T113 k).k k 88 Tryz.f88 (C129 k) h129)
def C130 (k:Nat):Ctr:=⟨q162,[],[q105],fun x=>yZ k x.1 x.2⟩
def T115 (k:Nat):TB:=(T114 k).ad ((T114 k).k k 59 Tryz.f59 (C130 k) noH)
def C131 (k:Nat):Ctr:=⟨⟨[(0,q30),(1,q1),(2,q10)],[(0,q166),(1,q167),(2,q168),(3,q113),(4,q170),(5,q172)],[],[],6,[.o .str,.o .int,.o (.st .zX),.o (.st .zW),.o (.st .zS),.o (.mp .str (.st .Vari)),.o (.mp .str .bool),.o (.sl (.st .Param)),.o (.mp .int .int),.o (.mp .int (.st .Vari))]⟩,[0,1,2,3],[⟨.tu [],[(0,q173),(1,q167),(2,q168),(6,q113)],[3],7,[.o (.st .zX),.o (.st .zW),.o (.st .zS),.o (.mp .str (.st .Vari)),.o (.mp .str .bool),.o (.sl (.st .Param))]⟩],fun x=>qJ k x.1 x.2.1 x.2.2.1 x.2.2.2.1 x.2.2.2.2.1 x.2.2.2.2.2.1 x.2.2.2.2.2.2.1 x.2.2.2.2.2.2.2.1 x.2.2.2.2.2.2.2.2.1 x.2.2.2.2.2.2.2.2.2⟩
def T116 (k:Nat):TB:=(T115 k).ad ((T115 k).k k 138 Tryz.f138 (C131 k) noH)
def C132 (k:Nat) (r:y7):Ctr:=⟨q174,[],[q7],fun x=>r.YL x.1 x.2⟩
def h132:Hints:=⟨fun i=>match i with|8=>some ⟨[⟨[(22,q4)],[],[],[],9000,q6⟩],false⟩|_=>none,fun i=>match i with  | _=>none,fun _=>none,fun _=>false⟩
def C133 (k:Nat) (r:y7):Ctr:=⟨⟨[(0,q10),(1,q30),(2,q146),(3,q84)],[(0,q145),(1,q176),(2,q147)],[],[],3,[.o .int,.o (.st .Node),.o .int,.o (.sl (.st .Node))]⟩,[],[q54],fun x=>r.Yw x.1 x.2.1 x.2.2.1 x.2.2.2⟩
def T117 (k:Nat):TB:=(T116 k).scc k y7.zero (y7.step k) [⟨141,C132 k⟩,⟨230,C133 k⟩] (gc (gc (gn) Tryz.f230 noH) Tryz.f141 h132)
def C134 (k:Nat):Ctr:=⟨⟨[(0,q30),(1,q10),(2,q10)],[(0,q166),(1,q177),(2,q178),(3,q179),(4,q170),(5,q172)],[],[],6,[.o .int,.o .int,.o (.st .zX),.o (.st .zW),.o (.st .zS),.o (.mp .str (.st .Vari)),.o (.mp .str .bool),.o (.sl (.st .Param)),.o (.mp .int .int),.o (.mp .int (.st .Vari))]⟩,[0],[q181],fun x=>yG k x.1 x.2.1 x.2.2.1 x.2.2.2.1 x.2.2.2.2.1 x.2.2.2.2.2.1 x.2.2.2.2.2.2.1 x.2.2.2.2.2.2.2.1 x.2.2.2.2.2.2.2.2.1 x.2.2.2.2.2.2.2.2.2⟩
def T118 (k:Nat):TB:=(T117 k).ad ((T117 k).k k 290 Tryz.f290 (C134 k) noH)
def C135 (k:Nat):Ctr:=⟨⟨[(0,q30),(1,q10),(2,q4)],[(0,q166),(1,q177),(2,q178),(3,q179),(4,q170),(5,q172)],[],[],6,q182⟩,[0],[q181],fun x=>yw k x.1 x.2.1 x.2.2.1 x.2.2.2.1 x.2.2.2.2.1 x.2.2.2.2.2.1 x.2.2.2.2.2.2.1 x.2.2.2.2.2.2.2.1 x.2.2.2.2.2.2.2.2.1 x.2.2.2.2.2.2.2.2.2⟩
def T119 (k:Nat):TB:=(T118 k).ad ((T118 k).k k 215 Tryz.f215 (C135 k) noH)
def C136 (k:Nat):Ctr:=⟨q185,[],[q105],fun x=>U6 k x.1 x.2⟩
def T120 (k:Nat):TB:=(T119 k).ad ((T119 k).k k 333 Tryz.f333 (C136 k) noH)
def C137 (k:Nat):Ctr:=⟨⟨[(0,q158),(1,.one (.clo false 333 [(.ptr 0 0)]))],[(0,q184)],[],[],1,q186⟩,[],[q160],fun x=>xw k x.1 x.2⟩
def h137:Hints:=⟨fun i=>match i with  | _=>none,fun i=>match i with|2=>some ⟨[q135],0,[q23],true⟩|_=>none,fun _=>none,fun _=>false⟩
def T121 (k:Nat):TB:=(T120 k).ad ((T120 k).k k 86 Tryz.f86 (C137 k) h137)
def C138 (k:Nat):Ctr:=⟨q187,[],[q105],fun x=>U7 k x.1 x.2⟩
def T122 (k:Nat):TB:=(T121 k).ad ((T121 k).k k 334 Tryz.f334 (C138 k) noH)
def C139 (k:Nat):Ctr:=⟨⟨[(0,q161),(1,.one (.clo false 334 [(.ptr 0 0)]))],[(0,q184)],[],[],1,[.o (.sl (.st .Method)),.o .str]⟩,[],[q160],fun x=>wz k x.1 x.2⟩
def h139:Hints:=⟨fun i=>match i with  | _=>none,fun i=>match i with|2=>some ⟨[q135],0,[q23],true⟩|_=>none,fun _=>none,fun _=>false⟩
def T123 (k:Nat):TB:=(T122 k).ad ((T122 k).k k 88 Tryz.f88 (C139 k) h139)
def C140 (k:Nat):Ctr:=⟨q188,[],[⟨.tu [q139,q4],[],[],0,[.o (.st .Method),.o .bool]⟩],fun x=>UN k x.1 x.2.1 x.2.2⟩
def T124 (k:Nat):TB:=(T123 k).ad ((T123 k).k k 289 Tryz.f289 (C140 k) noH)
def C141 (k:Nat):Ctr:=⟨⟨[(0,q10),(1,.ag [.part (.st .Param)])],[],[],[],0,[.o .int,.o (.st .Param)]⟩,[],[q7],fun x=>Vr k x.1 x.2⟩
def T125 (k:Nat):TB:=(T124 k).ad ((T124 k).k k 292 Tryz.f292 (C141 k) noH)
def C142 (k:Nat):Ctr:=⟨⟨[(0,q133),(1,.one (.leaf (.val (.sl (.st .Param))))),(2,.one (.clo false 292 []))],[],[],[],0,[.o (.sl .int),.o (.sl (.st .Param))]⟩,[],[q7],fun x=>yQ k x.1 x.2⟩
def h142:Hints:=⟨fun i=>match i with  | _=>none,fun i=>match i with|4=>some ⟨[q189],0,[q140],true⟩|_=>none,fun _=>none,fun _=>false⟩
def T126 (k:Nat):TB:=(T125 k).ad ((T125 k).k k 291 Tryz.f291 (C142 k) h142)
def C143 (k:Nat):Ctr:=⟨⟨[(0,q30),(1,q10),(2,q78),(3,q133)],[(0,q166),(1,q177),(2,q178),(3,q179),(4,q170),(5,q172)],[],[],6,q190⟩,[0],[q191],fun x=>Yg k x.1 x.2.1 x.2.2.1 x.2.2.2.1 x.2.2.2.2.1 x.2.2.2.2.2.1 x.2.2.2.2.2.2.1 x.2.2.2.2.2.2.2.1 x.2.2.2.2.2.2.2.2.1 x.2.2.2.2.2.2.2.2.2.1 x.2.2.2.2.2.2.2.2.2.2⟩
def T127 (k:Nat):TB:=(T126 k).ad ((T126 k).k k 212 Tryz.f212 (C143 k) noH)
def C144 (k:Nat):Ctr:=⟨⟨[(0,q30),(1,q1)],[(0,.rd (q166)),(1,q177),(2,q178),(3,q179),(4,q170),(5,q172)],[],[],6,[.o .str,.o (.st .zX),.o (.st .zW),.o (.st .zS),.o (.mp .str (.st .Vari)),.o (.mp .str .bool),.o (.sl (.st .Param)),.o (.mp .int .int),.o (.mp .int (.st .Vari))]⟩,[],[⟨.tu [.ag [.part (.st .Vari)],q4],[],[],6,[.o (.st .Vari),.o .bool]⟩],fun x=>XY k x.1 x.2.1 x.2.2.1 x.2.2.2.1 x.2.2.2.2.1 x.2.2.2.2.2.1 x.2.2.2.2.2.2.1 x.2.2.2.2.2.2.2.1 x.2.2.2.2.2.2.2.2⟩
def T128 (k:Nat):TB:=(T127 k).ad ((T127 k).k k 335 Tryz.f335 (C144 k) noH)
def C145 (k:Nat):Ctr:=⟨⟨[(0,q30),(1,q10),(2,q1)],[(0,q166),(1,q177),(2,q178),(3,q179),(4,q170),(5,q171)],[],[],6,[.o .int,.o .str,.o (.st .zX),.o (.st .zW),.o (.st .zS),.o (.mp .str (.st .Vari)),.o (.mp .str .bool),.o (.sl (.st .Param)),.o (.mp .int .int),.o (.mp .int (.st .Vari))]⟩,[0,5],[⟨.one (.ag [.part (.st .Vari)]),[(0,q166),(5,q171)],[],6,[.o (.st .Vari),.o (.st .zX),.o (.st .zW),.o (.st .zS),.o (.mp .int (.st .Vari))]⟩],fun x=>jF k x.1 x.2.1 x.2.2.1 x.2.2.2.1 x.2.2.2.2.1 x.2.2.2.2.2.1 x.2.2.2.2.2.2.1 x.2.2.2.2.2.2.2.1 x.2.2.2.2.2.2.2.2.1 x.2.2.2.2.2.2.2.2.2⟩
def T129 (k:Nat):TB:=(T128 k).ad ((T128 k).k k 293 Tryz.f293 (C145 k) noH)
def C146 (k:Nat):Ctr:=⟨⟨[(0,q30),(1,q10),(2,q1),(3,q10),(4,q10)],[(0,q166),(1,q177),(2,q178),(3,q179),(4,q170),(5,q172)],[],[],6,[.o .int,.o .str,.o .int,.o .int,.o (.st .zX),.o (.st .zW),.o (.st .zS),.o (.mp .str (.st .Vari)),.o (.mp .str .bool),.o (.sl (.st .Param)),.o (.mp .int .int),.o (.mp .int (.st .Vari))]⟩,[0],[q191],fun x=>Za k x.1 x.2.1 x.2.2.1 x.2.2.2.1 x.2.2.2.2.1 x.2.2.2.2.2.1 x.2.2.2.2.2.2.1 x.2.2.2.2.2.2.2.1 x.2.2.2.2.2.2.2.2.1 x.2.2.2.2.2.2.2.2.2.1 x.2.2.2.2.2.2.2.2.2.2.1 x.2.2.2.2.2.2.2.2.2.2.2⟩
def h146:Hints:=⟨fun i=>match i with|5=>some ⟨[⟨[(17,q4)],[],[],[],6000,q6⟩],false⟩|10=>some ⟨[⟨[(25,q4)],[],[],[],11000,q6⟩],false⟩|17=>some ⟨[⟨[(51,q4)],[],[],[],18000,q6⟩],false⟩|18=>some ⟨[⟨[(11,q10),(12,q4)],[],[],[],19000,[.o .int,.o .bool]⟩],false⟩|_=>none,fun i=>match i with  | _=>none,fun _=>none,fun _=>false⟩
def T130 (k:Nat):TB:=(T129 k).ad ((T129 k).k k 294 Tryz.f294 (C146 k) h146)
def C147 (k:Nat):Ctr:=⟨⟨[],[],[],[],0,[]⟩,[],[⟨.one (.one (.leaf (.map 0))),[(0,.cm [(Sv ([108,101,110]:List UInt8),.one q31),(Sv ([97,116]:List UInt8),.one q51),(Sv ([97,112,112,101,110,100]:List UInt8),.one q86),(Sv ([115,101,116]:List UInt8),.one q67),(Sv ([115,116,114]:List UInt8),.one q61)]),(1,q192),(2,q192),(3,q192),(4,q192),(5,q192)],[],6,[.o (.sl (.st .Signature)),.o (.sl (.st .Signature)),.o (.sl (.st .Signature)),.o (.sl (.st .Signature)),.o (.sl (.st .Signature))]⟩],fun x=>KH k⟩
def T131 (k:Nat):TB:=(T130 k).ad ((T130 k).k k 336 Tryz.f336 (C147 k) noH)
def C148 (k:Nat):Ctr:=⟨⟨[(0,q30),(1,q10),(2,q1),(3,q133)],[(0,q166),(1,q177),(2,q178),(3,q179),(4,q170),(5,q172)],[],[],6,[.o .int,.o .str,.o (.sl .int),.o (.st .zX),.o (.st .zW),.o (.st .zS),.o (.mp .str (.st .Vari)),.o (.mp .str .bool),.o (.sl (.st .Param)),.o (.mp .int .int),.o (.mp .int (.st .Vari))]⟩,[0],[q191],fun x=>ZH k x.1 x.2.1 x.2.2.1 x.2.2.2.1 x.2.2.2.2.1 x.2.2.2.2.2.1 x.2.2.2.2.2.2.1 x.2.2.2.2.2.2.2.1 x.2.2.2.2.2.2.2.2.1 x.2.2.2.2.2.2.2.2.2.1 x.2.2.2.2.2.2.2.2.2.2⟩
def h148:Hints:=⟨fun i=>match i with|5=>some ⟨[⟨[(9,q13),(10,q13)],[],[],[],6000,[.n,.n]⟩],false⟩|_=>none,fun i=>match i with|6=>some ⟨[⟨[(27,q13)],[(0,q166)],[],[],7000,[.n,.o (.st .zX),.o (.st .zW),.o (.st .zS)]⟩],0,[⟨[],[(0,q166)],[],[],7500,q180⟩],false⟩|16=>some ⟨[⟨[(52,q13)],[],[],[],17000,[.n]⟩],2,[⟨[],[],[],[],17500,[]⟩],true⟩|_=>none,fun _=>none,fun _=>false⟩
def T132 (k:Nat):TB:=(T131 k).ad ((T131 k).k k 295 Tryz.f295 (C148 k) h148)
def C149 (k:Nat):Ctr:=⟨⟨[(0,q30),(1,q10),(2,q78),(3,q133)],[(0,q166),(1,q177),(2,q178),(3,q179),(4,q170),(5,q171)],[],[],6,q190⟩,[0,5],[⟨q11,[(0,q166),(5,q171)],[],6,[.o .int,.o (.st .zX),.o (.st .zW),.o (.st .zS),.o (.mp .int (.st .Vari))]⟩],fun x=>qX k x.1 x.2.1 x.2.2.1 x.2.2.2.1 x.2.2.2.2.1 x.2.2.2.2.2.1 x.2.2.2.2.2.2.1 x.2.2.2.2.2.2.2.1 x.2.2.2.2.2.2.2.2.1 x.2.2.2.2.2.2.2.2.2.1 x.2.2.2.2.2.2.2.2.2.2⟩
def h149:Hints:=⟨fun i=>match i with|12=>some ⟨[⟨[(9,q13)],[],[],[],13000,[.n]⟩],false⟩|_=>none,fun i=>match i with  | _=>none,fun _=>none,fun _=>false⟩
def T133 (k:Nat):TB:=(T132 k).ad ((T132 k).k k 213 Tryz.f213 (C149 k) h149)
def C150 (k:Nat):Ctr:=⟨⟨[(0,q30),(1,q10),(2,q78),(3,q10)],[(0,q166),(1,q167),(2,q168),(3,q113),(4,q170),(5,q171)],[],[],6,[.o .int,.o (.st .Node),.o .int,.o (.st .zX),.o (.st .zW),.o (.st .zS),.o (.mp .str (.st .Vari)),.o (.mp .str .bool),.o (.sl (.st .Param)),.o (.mp .int .int),.o (.mp .int (.st .Vari))]⟩,[0,1,2,3,5],[q193],fun x=>YM k x.1 x.2.1 x.2.2.1 x.2.2.2.1 x.2.2.2.2.1 x.2.2.2.2.2.1 x.2.2.2.2.2.2.1 x.2.2.2.2.2.2.2.1 x.2.2.2.2.2.2.2.2.1 x.2.2.2.2.2.2.2.2.2.1 x.2.2.2.2.2.2.2.2.2.2⟩
def h150:Hints:=⟨fun i=>match i with|6=>some ⟨[⟨[],[(0,q166)],[],[],7000,q180⟩],false⟩|_=>none,fun i=>match i with  | _=>none,fun _=>none,fun _=>false⟩
def T134 (k:Nat):TB:=(T133 k).ad ((T133 k).k k 296 Tryz.f296 (C150 k) h150)
def C151 (k:Nat):Ctr:=⟨⟨[(0,q30),(1,q10),(2,q78),(3,q133)],[(0,q166),(1,q167),(2,q168),(3,q113),(4,q170),(5,q171)],[],[],6,q190⟩,[0,1,2,3,5],[q193],fun x=>jv k x.1 x.2.1 x.2.2.1 x.2.2.2.1 x.2.2.2.2.1 x.2.2.2.2.2.1 x.2.2.2.2.2.2.1 x.2.2.2.2.2.2.2.1 x.2.2.2.2.2.2.2.2.1 x.2.2.2.2.2.2.2.2.2.1 x.2.2.2.2.2.2.2.2.2.2⟩
def h151:Hints:=⟨fun i=>match i with|8=>some ⟨[⟨[(34,q4)],[],[],[],9000,q6⟩],false⟩|_=>none,fun i=>match i with  | _=>none,fun _=>none,fun _=>false⟩
def T135 (k:Nat):TB:=(T134 k).ad ((T134 k).k k 214 Tryz.f214 (C151 k) h151)
def C152 (k:Nat) (r:zG):Ctr:=⟨⟨[(0,q30),(1,q10),(2,q4)],[(0,q166),(1,q167),(2,q168),(3,q113),(4,q169),(5,q171)],[],[],6,q182⟩,[0,1,2,3,4,5],[⟨q11,[(0,q194),(6,q167),(2,q168),(7,q113),(4,q169),(5,q171)],[1,3],8,[.o .int,.o (.st .zX),.o (.st .zW),.o (.st .zS),.o (.mp .str (.st .Vari)),.o (.mp .str .bool),.o (.sl (.st .Param)),.o (.mp .int .int),.o (.mp .int (.st .Vari))]⟩],fun x=>r.vO x.1 x.2.1 x.2.2.1 x.2.2.2.1 x.2.2.2.2.1 x.2.2.2.2.2.1 x.2.2.2.2.2.2.1 x.2.2.2.2.2.2.2.1 x.2.2.2.2.2.2.2.2.1 x.2.2.2.2.2.2.2.2.2⟩
def h152:Hints:=⟨fun i=>match i with|19=>some ⟨[⟨[(11,q10)],[(0,.box [.part (.st .zX),.cell (.leaf (.map 8501)),.cell q163,.part (.st .zW),.cell (.leaf (.row 20000)),.cell q164,.cell q165,.part (.st .zS)]),(8501,q167),(2,q168),(20000,q113),(5,q171)],[],[8500,8502],20001,[.o .int,.o (.st .zX),.o (.st .zW),.o (.st .zS),.o (.mp .str (.st .Vari)),.o (.mp .str .bool),.o (.sl (.st .Param)),.o (.mp .int (.st .Vari))]⟩],false⟩|22=>some ⟨[⟨[],[(4,q169)],[],[],23000,[.o (.mp .int .int)]⟩],false⟩|_=>none,fun i=>match i with|7=>some ⟨[⟨[(8,.one q102),(29,q13)],[(8000,q57),(0,.box [.part (.st .zX),.cell (.leaf (.map 8001)),.cell q163,.part (.st .zW),.cell (.leaf (.row 8002)),.cell q164,.cell q165,.part (.st .zS)]),(8001,q167),(2,q168),(8002,q113),(4,q169),(5,q171)],[],[1,3],8003,[.n,.o (.sl .int),.o (.st .zX),.o (.st .zW),.o (.st .zS),.o (.mp .str (.st .Vari)),.o (.mp .str .bool),.o (.sl (.st .Param)),.o (.mp .int .int),.o (.mp .int (.st .Vari))]⟩],0,[⟨[(8,.one (.leaf (.row 8500)))],[(8500,q57),(0,.box [.part (.st .zX),.cell (.leaf (.map 8501)),.cell q163,.part (.st .zW),.cell (.leaf (.row 8502)),.cell q164,.cell q165,.part (.st .zS)]),(8501,q167),(2,q168),(8502,q113),(4,q169),(5,q171)],[],[1,3],8503,[.o (.sl .int),.o (.st .zX),.o (.st .zW),.o (.st .zS),.o (.mp .str (.st .Vari)),.o (.mp .str .bool),.o (.sl (.st .Param)),.o (.mp .int .int),.o (.mp .int (.st .Vari))]⟩],false⟩|_=>none,fun _=>none,fun _=>false⟩
def C153 (k:Nat) (r:zG):Ctr:=⟨⟨[(0,q30),(1,q10),(2,q78)],[(0,q166),(1,q167),(2,q168),(3,q113),(4,q169),(5,q171)],[],[],6,[.o .int,.o (.st .Node),.o (.st .zX),.o (.st .zW),.o (.st .zS),.o (.mp .str (.st .Vari)),.o (.mp .str .bool),.o (.sl (.st .Param)),.o (.mp .int .int),.o (.mp .int (.st .Vari))]⟩,[0,1,2,3,4,5],[⟨.tu [],[(0,q194),(6,q167),(2,q168),(7,q113),(4,q169),(5,q171)],[1,3],8,q195⟩],fun x=>r.jQ x.1 x.2.1 x.2.2.1 x.2.2.2.1 x.2.2.2.2.1 x.2.2.2.2.2.1 x.2.2.2.2.2.2.1 x.2.2.2.2.2.2.2.1 x.2.2.2.2.2.2.2.2.1 x.2.2.2.2.2.2.2.2.2⟩
def h153:Hints:=⟨fun i=>match i with  | _=>none,fun i=>match i with|4=>some ⟨[⟨[(7,q4),(18,q13)],[(0,.box [.part (.st .zX),.cell (.leaf (.map 5000)),.cell q163,.part (.st .zW),.cell (.leaf (.row 5001)),.cell q164,.cell q165,.part (.st .zS)]),(5000,q167),(2,q168),(5001,q113),(4,q169),(5,q171)],[],[1,3],5002,[.o .bool,.n,.o (.st .zX),.o (.st .zW),.o (.st .zS),.o (.mp .str (.st .Vari)),.o (.mp .str .bool),.o (.sl (.st .Param)),.o (.mp .int .int),.o (.mp .int (.st .Vari))]⟩],0,[⟨[],[(0,.box [.part (.st .zX),.cell (.leaf (.map 5500)),.cell q163,.part (.st .zW),.cell (.leaf (.row 5501)),.cell q164,.cell q165,.part (.st .zS)]),(5500,q167),(2,q168),(5501,q113),(4,q169),(5,q171)],[],[1,3],5502,q195⟩],false⟩|_=>none,fun _=>none,fun _=>false⟩
def T136 (k:Nat):TB:=(T135 k).scc k zG.zero (zG.step k) [⟨139,C152 k⟩,⟨211,C153 k⟩] (gc (gc (gn) Tryz.f211 h153) Tryz.f139 h152)
def C154 (k:Nat):Ctr:=⟨⟨[(0,q127),(1,.one (.leaf (.val (.mp .str (.st .Vari))))),(2,q139)],[],[],[],0,[.o (.st .Program),.o (.mp .str (.st .Vari)),.o (.st .Method)]⟩,[],[⟨.tu [.ag [.part (.st .Body)],q10,q10],[],[],0,[.o (.st .Body),.o .int,.o .int]⟩],fun x=>Jb k x.1 x.2.1 x.2.2⟩
def h154:Hints:=⟨fun i=>match i with  | _=>none,fun i=>match i with|3=>some ⟨[⟨[(30,q13)],[(3,q167),(4,q168),(7,.box [.part (.st .zX),.cell (.leaf (.map 3)),.cell q164,.part (.st .zW),.cell q19,.cell q165,.cell (.leaf (.map 6)),.part (.st .zS)]),(4000,q113)],[],[],4001,[.n,.o (.mp .str (.st .Vari)),.o (.mp .str .bool),.o (.st .zX),.o (.st .zW),.o (.st .zS),.o (.sl (.st .Param))]⟩],0,[⟨[],[(3,q167),(4,q168),(7,.box [.part (.st .zX),.cell (.leaf (.map 3)),.cell q164,.part (.st .zW),.cell q101,.cell q165,.cell (.leaf (.map 6)),.part (.st .zS)]),(4500,q113)],[],[],4501,[.o (.mp .str (.st .Vari)),.o (.mp .str .bool),.o (.st .zX),.o (.st .zW),.o (.st .zS),.o (.sl (.st .Param))]⟩],true⟩|_=>none,fun _=>none,fun _=>false⟩
def T137 (k:Nat):TB:=(T136 k).ad ((T136 k).k k 61 Tryz.f61 (C154 k) h154)
def C155 (k:Nat):Ctr:=⟨q154,[],[⟨.tu [.one (.leaf (.kv .ptr)),q196,q10],[],[],0,[.o (.st .Place),.o .int]⟩,⟨.tu [q197,q196,q10],[],[],0,[.o (.pt (.st .Info)),.o (.st .Place),.o .int]⟩],fun x=>YK k x⟩
def h155:Hints:=⟨fun i=>match i with  | _=>none,fun i=>match i with|5=>some ⟨[⟨[(29,q13)],[(3,.box [.part (.st .Program),.cell (.leaf (.row 6000))]),(6000,.row 159 (.sl (.st .Body)))],[],[],6001,[.n,.o (.st .Program),.o (.sl (.sl (.st .Body)))]⟩],0,[⟨[],[(3,.box [.part (.st .Program),.cell (.leaf (.row 6500))]),(6500,.row 159 (.sl (.st .Body)))],[],[],6501,[.o (.st .Program),.o (.sl (.sl (.st .Body)))]⟩],true⟩|11=>some ⟨[⟨[(46,q13)],[(6003,q167)],[],[],12000,[.n,.o (.mp .str (.st .Vari))]⟩],2,[⟨[],[(6003,q167)],[],[],12500,[.o (.mp .str (.st .Vari))]⟩],true⟩|20=>some ⟨[⟨[(13,.one (.leaf (.row 21000))),(72,q13)],[(21000,.row 165 (.st .Body)),(6003,.fz (.val (.mp .str (.st .Vari))))],[],[],21001,[.n,.o (.sl (.st .Body)),.o (.mp .str (.st .Vari))]⟩],4,[⟨[(13,.one (.leaf (.row 21500)))],[(21500,.row 165 (.st .Body))],[],[6003],21501,[.o (.sl (.st .Body))]⟩],true⟩|_=>none,fun _=>none,fun _=>false⟩
def T138 (k:Nat):TB:=(T137 k).ad ((T137 k).k k 16 Tryz.f16 (C155 k) h155)
def C156 (k:Nat):Ctr:=⟨q198,[],[⟨.tu [.ag [.part (.st .Body)],q4],[],[],0,[.o (.st .Body),.o .bool]⟩],fun x=>vI k x.1 x.2.1 x.2.2⟩
def T139 (k:Nat):TB:=(T138 k).ad ((T138 k).k k 94 Tryz.f94 (C156 k) noH)
def C157 (k:Nat):Ctr:=⟨q198,[],[⟨q199,[(0,q113)],[],1,[.o (.sl (.st .Param))]⟩],fun x=>Zu k x.1 x.2.1 x.2.2⟩
def T140 (k:Nat):TB:=(T139 k).ad ((T139 k).k k 33 Tryz.f33 (C157 k) noH)
def C158 (k:Nat):Ctr:=⟨⟨[(0,q30)],[(0,q201),(1,.rd (q202))],[],[],2,q203⟩,[],[⟨.one (.one q163),[(2,.cm [(.int .i64 1,.one (.clo true 216 [(.ptr 0 0)])),(.int .i64 2,.one (.clo true 217 [(.ptr 0 0)])),(.int .i64 3,.one (.clo true 218 [(.ptr 0 0)])),(.int .i64 4,.one (.clo true 219 [(.ptr 0 0)])),(.int .i64 5,.one (.clo true 220 [(.ptr 0 0)])),(.int .i64 6,.one (.clo true 221 [(.ptr 0 0)])),(.int .i64 7,.one (.clo true 222 [(.ptr 0 0)])),(.int .i64 8,.one (.clo true 223 [(.ptr 0 0)])),(.int .i64 9,.one (.clo true 223 [(.ptr 0 0)])),(.int .i64 10,.one (.clo true 224 [(.ptr 0 0)])),(.int .i64 11,.one (.clo true 225 [(.ptr 0 0)])),(.int .i64 12,.one (.clo true 226 [(.ptr 0 0)])),(.int .i64 13,.one (.clo true 227 [(.ptr 0 0)])),(.int .i64 14,.one (.clo true 227 [(.ptr 0 0)])),(.int .i64 15,q204),(.int .i64 16,q204),(.int .i64 17,q204),(.int .i64 18,.one (.clo true 229 [(.ptr 0 0)]))])],[],3,[]⟩],fun x=>ZJ k x.1 x.2⟩
def T141 (k:Nat):TB:=(T140 k).ad ((T140 k).k k 140 Tryz.f140 (C158 k) noH)
def C159 (k:Nat):Ctr:=⟨⟨[(0,q30),(1,q76)],[(0,q200),(1,q202)],[],[],2,[.o (.st .Value),.o (.st .yA),.o (.sl (.st .Instr))]⟩,[0,1],[q206],fun x=>wY k x.1 x.2.1 x.2.2⟩
def T142 (k:Nat):TB:=(T141 k).ad ((T141 k).k k 297 Tryz.f297 (C159 k) noH)
def C160 (k:Nat):Ctr:=⟨q207,[0,1],[q206],fun x=>kE k x.1 x.2.1 x.2.2.1 x.2.2.2⟩
def T143 (k:Nat):TB:=(T142 k).ad ((T142 k).k k 216 Tryz.f216 (C160 k) noH)
def C161 (k:Nat):Ctr:=⟨q209,[],[⟨.one (q196),[],[],2,[.o (.st .Place)]⟩],fun x=>ug k x.1 x.2.1 x.2.2⟩
def T144 (k:Nat):TB:=(T143 k).ad ((T143 k).k k 337 Tryz.f337 (C161 k) noH)
def C162 (k:Nat):Ctr:=⟨q210,[],[⟨.tu [q10,q4,q4],[],[],0,[.o .int,.o .bool,.o .bool]⟩],fun x=>Yy k x.1 x.2⟩
def T145 (k:Nat):TB:=(T144 k).ad ((T144 k).k k 162 Tryz.f162 (C162 k) noH)
def C163 (k:Nat):Ctr:=⟨q211,[0,1],[⟨q11,[(0,q205),(2,q202)],[1],3,q208⟩],fun x=>zA k x.1 x.2.1 x.2.2.1 x.2.2.2.1 x.2.2.2.2⟩
def T146 (k:Nat):TB:=(T145 k).ad ((T145 k).k k 64 Tryz.f64 (C163 k) noH)
def C164 (k:Nat):Ctr:=⟨q211,[0,1],[q206],fun x=>wW k x.1 x.2.1 x.2.2.1 x.2.2.2.1 x.2.2.2.2⟩
def h164:Hints:=⟨fun i=>match i with|3=>some ⟨[⟨[(2,q10)],[],[],[],4000,[.o .int]⟩],false⟩|_=>none,fun i=>match i with  | _=>none,fun _=>none,fun _=>false⟩
def T147 (k:Nat):TB:=(T146 k).ad ((T146 k).k k 298 Tryz.f298 (C164 k) h164)
def C165 (k:Nat):Ctr:=⟨q207,[0,1],[q206],fun x=>ZU k x.1 x.2.1 x.2.2.1 x.2.2.2⟩
def T148 (k:Nat):TB:=(T147 k).ad ((T147 k).k k 217 Tryz.f217 (C165 k) noH)
def C166 (k:Nat):Ctr:=⟨q207,[0,1],[q206],fun x=>ZV k x.1 x.2.1 x.2.2.1 x.2.2.2⟩
def T149 (k:Nat):TB:=(T148 k).ad ((T148 k).k k 218 Tryz.f218 (C166 k) noH)
def C167 (k:Nat):Ctr:=⟨q210,[],[q213],fun x=>Yx k x.1 x.2⟩
def T150 (k:Nat):TB:=(T149 k).ad ((T149 k).k k 253 Tryz.f253 (C167 k) noH)
def C168 (k:Nat):Ctr:=⟨q209,[],[⟨q11,[],[],2,[.o .int]⟩],fun x=>uP k x.1 x.2.1 x.2.2⟩
def T151 (k:Nat):TB:=(T150 k).ad ((T150 k).k k 300 Tryz.f300 (C168 k) noH)
def C169 (k:Nat):Ctr:=⟨⟨[(0,q156),(1,q30)],[(0,q145)],[],[],1,[.o (.st .zF),.o (.st .Node)]⟩,[],[q105],fun x=>Zi k x.1 x.2⟩
def T152 (k:Nat):TB:=(T151 k).ad ((T151 k).k k 301 Tryz.f301 (C169 k) noH)
def C170 (k:Nat):Ctr:=⟨⟨[(0,q158),(1,.one (.clo false 301 [(.ptr 0 0)]))],[(0,q145)],[],[],1,[.o (.sl (.st .zF)),.o (.st .Node)]⟩,[],[q160],fun x=>xA k x.1 x.2⟩
def h170:Hints:=⟨fun i=>match i with  | _=>none,fun i=>match i with|2=>some ⟨[q135],0,[q23],true⟩|_=>none,fun _=>none,fun _=>false⟩
def T153 (k:Nat):TB:=(T152 k).ad ((T152 k).k k 86 Tryz.f86 (C170 k) h170)
def C171 (k:Nat):Ctr:=⟨⟨[(0,q139),(1,q30)],[(0,q145)],[],[],1,[.o (.st .Method),.o (.st .Node)]⟩,[],[q105],fun x=>Zj k x.1 x.2⟩
def T154 (k:Nat):TB:=(T153 k).ad ((T153 k).k k 302 Tryz.f302 (C171 k) noH)
def C172 (k:Nat):Ctr:=⟨⟨[(0,q161),(1,.one (.clo false 302 [(.ptr 0 0)]))],[(0,q145)],[],[],1,[.o (.sl (.st .Method)),.o (.st .Node)]⟩,[],[q160],fun x=>wB k x.1 x.2⟩
def h172:Hints:=⟨fun i=>match i with  | _=>none,fun i=>match i with|2=>some ⟨[q135],0,[q23],true⟩|_=>none,fun _=>none,fun _=>false⟩
def T155 (k:Nat):TB:=(T154 k).ad ((T154 k).k k 88 Tryz.f88 (C172 k) h172)
def C173 (k:Nat):Ctr:=⟨⟨[(0,q30),(1,q10)],[(0,q201),(1,q202)],[],[],2,q208⟩,[1],[⟨.tu [],[(1,q202)],[],2,[.o (.sl (.st .Instr))]⟩],fun x=>yP k x.1 x.2.1 x.2.2⟩
def T156 (k:Nat):TB:=(T155 k).ad ((T155 k).k k 303 Tryz.f303 (C173 k) noH)
def C174 (k:Nat):Ctr:=⟨q174,[],[q7],fun x=>YF k x.1 x.2⟩
def T157 (k:Nat):TB:=(T156 k).ad ((T156 k).k k 63 Tryz.f63 (C174 k) noH)
def C175 (k:Nat) (r:zh):Ctr:=⟨⟨[(0,q30),(1,q10)],[(0,q200),(1,q202)],[],[],2,q208⟩,[0,1],[q206],fun x=>r.zZ x.1 x.2.1 x.2.2⟩
def C176 (k:Nat) (r:zh):Ctr:=⟨q207,[0,1],[q206],fun x=>r.yL x.1 x.2.1 x.2.2.1 x.2.2.2⟩
def h176:Hints:=⟨fun i=>match i with  | _=>none,fun i=>match i with|2=>some ⟨[⟨[(11,q13)],[(0,.box [.part (.st .yA),.cell q72]),(3000,q202)],[],[1],3001,[.n,.o (.st .yA),.o (.sl (.st .Instr))]⟩],0,[⟨[],[(0,.box [.part (.st .yA),.cell q73]),(3500,q202)],[],[1],3501,q203⟩],false⟩|_=>none,fun _=>none,fun _=>false⟩
def C177 (k:Nat) (r:zh):Ctr:=⟨q207,[0,1],[q206],fun x=>r.ji x.1 x.2.1 x.2.2.1 x.2.2.2⟩
def C178 (k:Nat) (r:zh):Ctr:=⟨⟨[(0,q30),(1,q78)],[(0,q200),(1,q202)],[],[],2,[.o (.st .Node),.o (.st .yA),.o (.sl (.st .Instr))]⟩,[0,1],[q206],fun x=>r.jh x.1 x.2.1 x.2.2⟩
def h178:Hints:=⟨fun i=>match i with|7=>some ⟨[⟨[],[(0,q214),(8000,q202)],[],[6],8001,q203⟩],false⟩|12=>some ⟨[⟨[],[(0,.box [.part (.st .yA),.cell (.leaf (.row 13000))]),(13000,q202)],[],[8002],13001,q203⟩],false⟩|_=>none,fun i=>match i with  | _=>none,fun _=>none,fun _=>false⟩
def C179 (k:Nat) (r:zh):Ctr:=⟨q207,[0,1],[q206],fun x=>r.qL x.1 x.2.1 x.2.2.1 x.2.2.2⟩
def h179:Hints:=⟨fun i=>match i with|5=>some ⟨[⟨[(9,q4)],[],[],[],6000,q6⟩],false⟩|30=>some ⟨[⟨[(6,q13)],[],[],[],31000,[.n]⟩],true⟩|_=>none,fun i=>match i with  | _=>none,fun _=>none,fun _=>false⟩
def C180 (k:Nat) (r:zh):Ctr:=⟨q207,[0,1],[q206],fun x=>r.jg x.1 x.2.1 x.2.2.1 x.2.2.2⟩
def C181 (k:Nat) (r:zh):Ctr:=⟨q207,[0,1],[q206],fun x=>r.jU x.1 x.2.1 x.2.2.1 x.2.2.2⟩
def C182 (k:Nat) (r:zh):Ctr:=⟨q207,[0,1],[q206],fun x=>r.vT x.1 x.2.1 x.2.2.1 x.2.2.2⟩
def C183 (k:Nat) (r:zh):Ctr:=⟨q207,[0,1],[q206],fun x=>r.kX x.1 x.2.1 x.2.2.1 x.2.2.2⟩
def C184 (k:Nat) (r:zh):Ctr:=⟨q207,[0,1],[q206],fun x=>r.qM x.1 x.2.1 x.2.2.1 x.2.2.2⟩
def C185 (k:Nat) (r:zh):Ctr:=⟨q207,[0,1],[q206],fun x=>r.jV x.1 x.2.1 x.2.2.1 x.2.2.2⟩
def h185:Hints:=⟨fun i=>match i with|7=>some ⟨[⟨[],[(0,q214),(8000,q202)],[],[8],8001,q203⟩],false⟩|_=>none,fun i=>match i with  | _=>none,fun _=>none,fun _=>false⟩
def C186 (k:Nat) (r:zh):Ctr:=⟨q207,[0,1],[q206],fun x=>r.qy x.1 x.2.1 x.2.2.1 x.2.2.2⟩
def C187 (k:Nat) (r:zh):Ctr:=⟨q207,[0,1],[q206],fun x=>r.wI x.1 x.2.1 x.2.2.1 x.2.2.2⟩
def T158 (k:Nat):TB:=(T157 k).scc k zh.zero (zh.step k) [⟨62,C175 k⟩,⟨229,C176 k⟩,⟨219,C177 k⟩,⟨299,C178 k⟩,⟨220,C179 k⟩,⟨221,C180 k⟩,⟨222,C181 k⟩,⟨223,C182 k⟩,⟨224,C183 k⟩,⟨225,C184 k⟩,⟨226,C185 k⟩,⟨227,C186 k⟩,⟨228,C187 k⟩] (gc (gc (gc (gc (gc (gc (gc (gc (gc (gc (gc (gc (gc (gn) Tryz.f228 noH) Tryz.f227 noH) Tryz.f226 h185) Tryz.f225 noH) Tryz.f224 noH) Tryz.f223 noH) Tryz.f222 noH) Tryz.f221 noH) Tryz.f220 h179) Tryz.f299 h178) Tryz.f219 noH) Tryz.f229 h176) Tryz.f62 noH)
def C188 (k:Nat):Ctr:=⟨⟨[(0,q127),(1,q197),(2,q10),(3,q10)],[],[],[],0,[.o (.st .Program),.o (.pt (.st .Info)),.o .int,.o .int]⟩,[],[⟨.one (.ag [.cell q0,.cell (.leaf (.row 0)),.cell q9,.cell q31,.cell q51]),[(0,q57),(1,q57),(2,q202)],[],3,[.o .str,.o .int,.o (.sl .int),.o (.sl .int),.o (.sl (.st .Instr))]⟩],fun x=>jT k x.1 x.2.1 x.2.2.1 x.2.2.2⟩
def h188:Hints:=⟨fun i=>match i with|18=>some ⟨[⟨[],[(10501,.box [.part (.st .yA),.cell (.leaf (.row 19000))]),(19000,q202)],[],[10504],19001,q203⟩],false⟩|_=>none,fun i=>match i with|4=>some ⟨[⟨[(34,q13)],[(3,.box [.cell q0,.cell q27,.cell q9,.cell q124,.cell q124]),(5000,q57)],[],[],5001,q215⟩],0,[⟨[],[(3,.box [.cell q0,.cell q29,.cell q9,.cell q124,.cell q124]),(5500,q57)],[],[],5501,[.o .str,.o .int,.o (.sl .int)]⟩],false⟩|9=>some ⟨[⟨[(51,q13)],[(3,.box [.cell q0,.cell q29,.cell q9,.cell q90,.cell q124]),(10000,q57)],[],[],10001,q215⟩],2,[⟨[],[(3,.box [.cell q0,.cell q29,.cell q9,.cell (.leaf (.row 10500)),.cell q124]),(10500,q57)],[],[],10501,[.o .str,.o .int,.o (.sl .int)]⟩],false⟩|_=>none,fun _=>none,fun _=>false⟩
def T159 (k:Nat):TB:=(T158 k).ad ((T158 k).k k 19 Tryz.f19 (C188 k) h188)
def C189 (k:Nat):Ctr:=⟨⟨[(0,q10),(1,q30)],[(0,q216)],[],[],1,[.o .int,.o (.st .Code)]⟩,[],[q217],fun x=>YS k x.1 x.2⟩
def T160 (k:Nat):TB:=(T159 k).ad ((T159 k).k k 72 Tryz.f72 (C189 k) noH)
def C190 (k:Nat):Ctr:=⟨⟨[(0,q10),(1,.one (.clo false 72 [(.ptr 0 0)]))],[(0,q216)],[],[],1,[.o .int,.o (.st .Code)]⟩,[],[q105],fun x=>Wj k x.1 x.2⟩
def h190:Hints:=⟨fun i=>match i with  | _=>none,fun i=>match i with|3=>some ⟨[q218],0,[q219],true⟩|_=>none,fun _=>none,fun _=>false⟩
def T161 (k:Nat):TB:=(T160 k).ad ((T160 k).k k 71 Tryz.f71 (C190 k) h190)
def C191 (k:Nat):Ctr:=⟨q222,[],[q217],fun x=>YU k x.1 x.2⟩
def T162 (k:Nat):TB:=(T161 k).ad ((T161 k).k k 149 Tryz.f149 (C191 k) noH)
def C192 (k:Nat):Ctr:=⟨⟨[(0,q10),(1,.one (.clo false 149 [(.ptr 0 0)]))],[(0,q220)],[],[],1,q221⟩,[],[q105],fun x=>YQ k x.1 x.2⟩
def h192:Hints:=⟨fun i=>match i with  | _=>none,fun i=>match i with|3=>some ⟨[q218],0,[q219],true⟩|_=>none,fun _=>none,fun _=>false⟩
def T163 (k:Nat):TB:=(T162 k).ad ((T162 k).k k 71 Tryz.f71 (C192 k) h192)
def C193 (k:Nat):Ctr:=⟨q222,[],[q217],fun x=>YV k x.1 x.2⟩
def T164 (k:Nat):TB:=(T163 k).ad ((T163 k).k k 150 Tryz.f150 (C193 k) noH)
def C194 (k:Nat):Ctr:=⟨⟨[(0,q10),(1,.one (.clo false 150 [(.ptr 0 0)]))],[(0,q220)],[],[],1,q221⟩,[],[q105],fun x=>YR k x.1 x.2⟩
def h194:Hints:=⟨fun i=>match i with  | _=>none,fun i=>match i with|3=>some ⟨[q218],0,[q219],true⟩|_=>none,fun _=>none,fun _=>false⟩
def T165 (k:Nat):TB:=(T164 k).ad ((T164 k).k k 71 Tryz.f71 (C194 k) h194)
def C195 (k:Nat):Ctr:=⟨q130,[],[q7],fun x=>Yl k x⟩
def T166 (k:Nat):TB:=(T165 k).ad ((T165 k).k k 152 Tryz.f152 (C195 k) noH)
def C196 (k:Nat):Ctr:=⟨q136,[],[q7],fun x=>kW k x⟩
def T167 (k:Nat):TB:=(T166 k).ad ((T166 k).k k 151 Tryz.f151 (C196 k) noH)
def C197 (k:Nat):Ctr:=⟨q223,[],[q12],fun x=>qE k x⟩
def h197:Hints:=⟨fun i=>match i with  | _=>none,fun i=>match i with|2=>some ⟨[q135],0,[q23],true⟩|_=>none,fun _=>none,fun _=>false⟩
def T168 (k:Nat):TB:=(T167 k).ad ((T167 k).k k 204 Tryz.f204 (C197 k) h197)
def C198 (k:Nat):Ctr:=⟨q223,[],[q7],fun x=>uK k x⟩
def T169 (k:Nat):TB:=(T168 k).ad ((T168 k).k k 133 Tryz.f133 (C198 k) noH)
def C199 (k:Nat):Ctr:=⟨q225,[],[q7],fun x=>Z5 k x⟩
def T170 (k:Nat):TB:=(T169 k).ad ((T169 k).k k 75 Tryz.f75 (C199 k) noH)
def C200 (k:Nat):Ctr:=⟨q225,[],[q7],fun x=>YT k x⟩
def T171 (k:Nat):TB:=(T170 k).ad ((T170 k).k k 74 Tryz.f74 (C200 k) noH)
def C201 (k:Nat):Ctr:=⟨q227,[],[q12],fun x=>uM k x⟩
def h201:Hints:=⟨fun i=>match i with  | _=>none,fun i=>match i with|2=>some ⟨[q135],0,[q23],true⟩|_=>none,fun _=>none,fun _=>false⟩
def T172 (k:Nat):TB:=(T171 k).ad ((T171 k).k k 148 Tryz.f148 (C201 k) h201)
def C202 (k:Nat):Ctr:=⟨q227,[],[q7],fun x=>vV k x⟩
def T173 (k:Nat):TB:=(T172 k).ad ((T172 k).k k 73 Tryz.f73 (C202 k) noH)
def C203 (k:Nat):Ctr:=⟨q130,[],[q7],fun x=>XI k x⟩
def T174 (k:Nat):TB:=(T173 k).ad ((T173 k).k k 238 Tryz.f238 (C203 k) noH)
def C204 (k:Nat):Ctr:=⟨q228,[],[q12],fun x=>Xy k x⟩
def h204:Hints:=⟨fun i=>match i with  | _=>none,fun i=>match i with|2=>some ⟨[q135],0,[q23],true⟩|_=>none,fun _=>none,fun _=>false⟩
def T175 (k:Nat):TB:=(T174 k).ad ((T174 k).k k 310 Tryz.f310 (C204 k) h204)
def C205 (k:Nat):Ctr:=⟨q228,[],[q7],fun x=>Yq k x⟩
def T176 (k:Nat):TB:=(T175 k).ad ((T175 k).k k 237 Tryz.f237 (C205 k) noH)
def C206 (k:Nat):Ctr:=⟨⟨[(0,q133)],[],[],[],0,q98⟩,[],[q7],fun x=>Xi k x⟩
def T177 (k:Nat):TB:=(T176 k).ad ((T176 k).k k 153 Tryz.f153 (C206 k) noH)
def C207 (k:Nat):Ctr:=⟨q130,[],[q7],fun x=>UR k x⟩
def T178 (k:Nat):TB:=(T177 k).ad ((T177 k).k k 240 Tryz.f240 (C207 k) noH)
def C208 (k:Nat):Ctr:=⟨q229,[],[q7],fun x=>xR k x.1 x.2⟩
def T179 (k:Nat):TB:=(T178 k).ad ((T178 k).k k 241 Tryz.f241 (C208 k) noH)
def C209 (k:Nat):Ctr:=⟨⟨[(0,q230),(1,q224),(2,q231),(3,q232)],[],[],[],0,[.o (.st .Code),.o (.st .zq),.o (.st .zk),.o (.st .Instr)]⟩,[],[q7],fun x=>ZE k x.1 x.2.1 x.2.2.1 x.2.2.2⟩
def h209:Hints:=⟨fun i=>match i with|11=>some ⟨[⟨[(62,q4)],[],[],[],12000,q6⟩],false⟩|14=>some ⟨[⟨[(72,q4)],[],[],[],15000,q6⟩],false⟩|17=>some ⟨[⟨[(82,q4)],[],[],[],18000,q6⟩],false⟩|20=>some ⟨[⟨[(89,q4)],[],[],[],21000,q6⟩],false⟩|_=>none,fun i=>match i with  | _=>none,fun _=>none,fun _=>false⟩
def T180 (k:Nat):TB:=(T179 k).ad ((T179 k).k k 156 Tryz.f156 (C209 k) h209)
def C210 (k:Nat):Ctr:=⟨⟨[(0,q232),(1,q30),(2,q146),(3,q84)],[(0,q216),(1,q220),(2,q233)],[],[],3,[.o (.st .Instr),.o (.st .Code),.o (.st .zq),.o (.st .zk)]⟩,[],[q54],fun x=>ZT k x.1 x.2.1 x.2.2.1 x.2.2.2⟩
def T181 (k:Nat):TB:=(T180 k).ad ((T180 k).k k 155 Tryz.f155 (C210 k) noH)
def C211 (k:Nat):Ctr:=⟨q234,[],[q235],fun x=>jA k x.1 x.2.1 x.2.2.1 x.2.2.2⟩
def h211:Hints:=⟨fun i=>match i with  | _=>none,fun i=>match i with|2=>some ⟨[q135],0,[q23],true⟩|_=>none,fun _=>none,fun _=>false⟩
def T182 (k:Nat):TB:=(T181 k).ad ((T181 k).k k 239 Tryz.f239 (C211 k) h211)
def C212 (k:Nat):Ctr:=⟨q234,[],[q54],fun x=>qC k x.1 x.2.1 x.2.2.1 x.2.2.2⟩
def T183 (k:Nat):TB:=(T182 k).ad ((T182 k).k k 154 Tryz.f154 (C212 k) noH)
def C213 (k:Nat):Ctr:=⟨q236,[],[q7],fun x=>kV k x.1 x.2.1 x.2.2⟩
def T184 (k:Nat):TB:=(T183 k).ad ((T183 k).k k 76 Tryz.f76 (C213 k) noH)
def C214 (k:Nat):Ctr:=⟨q237,[],[q7],fun x=>xI k x⟩
def h214:Hints:=⟨fun i=>match i with  | _=>none,fun i=>match i with|5=>some ⟨[⟨[(3,q13),(28,q13)],[],[],[],6000,[.n,.n]⟩],0,[q155],true⟩|8=>some ⟨[⟨[(3,q13),(35,q13)],[],[],[],9000,[.n,.n]⟩],2,[⟨[(3,q13)],[],[],[],9500,[.n]⟩],true⟩|_=>none,fun _=>none,fun _=>false⟩
def T185 (k:Nat):TB:=(T184 k).ad ((T184 k).k k 23 Tryz.f23 (C214 k) h214)
def C215 (k:Nat):Ctr:=⟨q141,[],[q238],fun x=>zQ k x.1 x.2⟩
def T186 (k:Nat):TB:=(T185 k).ad ((T185 k).k k 304 Tryz.f304 (C215 k) noH)
def C216 (k:Nat):Ctr:=⟨q229,[],[q239],fun x=>Ym k x.1 x.2⟩
def T187 (k:Nat):TB:=(T186 k).ad ((T186 k).k k 305 Tryz.f305 (C216 k) noH)
def C217 (k:Nat):Ctr:=⟨⟨[(0,q231)],[],[],[],0,[.o (.st .zk)]⟩,[],[q239],fun x=>Yn k x⟩
def T188 (k:Nat):TB:=(T187 k).ad ((T187 k).k k 306 Tryz.f306 (C217 k) noH)
def C218 (k:Nat):Ctr:=⟨⟨[(0,q230),(1,q224),(2,q231),(3,q232),(4,q10)],[],[],[],0,[.o (.st .Code),.o (.st .zq),.o (.st .zk),.o (.st .Instr),.o .int]⟩,[],[q238],fun x=>Xh k x.1 x.2.1 x.2.2.1 x.2.2.2.1 x.2.2.2.2⟩
def h218:Hints:=⟨fun i=>match i with|24=>some ⟨[⟨[(86,q4)],[],[],[],25000,q6⟩],false⟩|29=>some ⟨[⟨[(102,q4)],[],[],[],30000,q6⟩],false⟩|34=>some ⟨[⟨[(111,q4)],[],[],[],35000,q6⟩],false⟩|_=>none,fun i=>match i with  | _=>none,fun _=>none,fun _=>false⟩
def T189 (k:Nat):TB:=(T188 k).ad ((T188 k).k k 231 Tryz.f231 (C218 k) h218)
def C219 (k:Nat):Ctr:=⟨⟨[(0,q230),(1,q224),(2,q231),(3,q232),(4,q133)],[],[],[],0,[.o (.st .Code),.o (.st .zq),.o (.st .zk),.o (.st .Instr),.o (.sl .int)]⟩,[],[⟨.tu [q133,q4],[],[],0,[.o (.sl .int),.o .bool]⟩],fun x=>WH k x.1 x.2.1 x.2.2.1 x.2.2.2.1 x.2.2.2.2⟩
def h219:Hints:=⟨fun i=>match i with|6=>some ⟨[⟨[(12,q10)],[],[],[],7000,[.o .int]⟩],true⟩|_=>none,fun i=>match i with|7=>some ⟨[⟨[(45,q13)],[],[],[],8000,[.n]⟩],0,[⟨[],[],[],[],8500,[]⟩],true⟩|_=>none,fun _=>none,fun _=>false⟩
def T190 (k:Nat):TB:=(T189 k).ad ((T189 k).k k 142 Tryz.f142 (C219 k) h219)
def C220 (k:Nat):Ctr:=⟨⟨[(0,q231),(1,q10)],[],[],[],0,[.o (.st .zk),.o .int]⟩,[],[⟨q240,[(0,q57)],[],1,[.o .bool,.o (.sl .int)]⟩],fun x=>ZC k x.1 x.2⟩
def h220:Hints:=⟨fun i=>match i with|5=>some ⟨[⟨[(14,q4)],[],[],[],6000,q6⟩],false⟩|_=>none,fun i=>match i with  | _=>none,fun _=>none,fun _=>false⟩
def T191 (k:Nat):TB:=(T190 k).ad ((T190 k).k k 143 Tryz.f143 (C220 k) h220)
def C221 (k:Nat):Ctr:=⟨q236,[],[⟨q240,[(0,q241)],[],1,[.o .bool,.o (.sl (.st .State))]⟩],fun x=>xk k x.1 x.2.1 x.2.2⟩
def h221:Hints:=⟨fun i=>match i with|15=>some ⟨[⟨[(17,q242)],[],[],[],16000,[.o .u64]⟩],false⟩|27=>some ⟨[⟨[(9,.one (.leaf (.row 28000)))],[(28000,q57),(3,q241)],[],[17000],28001,q243⟩],true⟩|_=>none,fun i=>match i with|4=>some ⟨[⟨[(9,q28)],[(5000,q57),(3,q241)],[],[4],5001,q243⟩],0,[⟨[],[(3,q241)],[],[4],5500,[.o (.sl (.st .State))]⟩],true⟩|16=>some ⟨[⟨[(9,.one (.leaf (.row 17000))),(94,q13)],[(17000,q57),(3,q241)],[],[5001],17001,[.n,.o (.sl .int),.o (.sl (.st .State))]⟩],2,[⟨[(9,.one (.leaf (.row 17500)))],[(17500,q57),(3,q241)],[],[5001],17501,q243⟩],true⟩|29=>some ⟨[⟨[(148,q13)],[],[],[],30000,[.n]⟩],4,[⟨[],[],[],[],30500,[]⟩],true⟩|_=>none,fun _=>none,fun _=>false⟩
def T192 (k:Nat):TB:=(T191 k).ad ((T191 k).k k 65 Tryz.f65 (C221 k) h221)
def C222 (k:Nat):Ctr:=⟨q237,[],[q12],fun x=>vC k x⟩
def h222:Hints:=⟨fun i=>match i with  | _=>none,fun i=>match i with|4=>some ⟨[⟨[(15,q13)],[],[],[],5000,[.n]⟩],0,[q140],true⟩|7=>some ⟨[⟨[(22,q13)],[],[],[],8000,[.n]⟩],2,[⟨[],[],[],[],8500,[]⟩],true⟩|_=>none,fun _=>none,fun _=>false⟩
def T193 (k:Nat):TB:=(T192 k).ad ((T192 k).k k 20 Tryz.f20 (C222 k) h222)
def C223 (k:Nat):Ctr:=⟨q154,[],[⟨.tu [q230,q196,q10],[],[],0,[.o (.st .Code),.o (.st .Place),.o .int]⟩],fun x=>ZI k x⟩
def h223:Hints:=⟨fun i=>match i with  | _=>none,fun i=>match i with|6=>some ⟨[⟨[(29,q13)],[(5,q244),(7000,q245)],[],[],7001,[.n,.o (.sl (.st .zq))]⟩],0,[⟨[],[(5,q246),(7500,q245)],[],[],7501,[.o (.sl (.st .zq))]⟩],false⟩|10=>some ⟨[⟨[(40,q13)],[(7002,.box [.cell q0,.cell (.leaf (.row 11000)),.cell q124]),(11000,q122)],[],[],11001,[.n,.o .str,.o (.sl (.st .Field))]⟩],2,[⟨[],[(7002,.box [.cell q0,.cell q247,.cell q124]),(11500,q122)],[],[],11501,[.o .str,.o (.sl (.st .Field))]⟩],false⟩|16=>some ⟨[⟨[(66,q13)],[(7002,.box [.cell q0,.cell q247,.cell (.leaf (.row 17000))]),(17000,q248)],[],[],17001,[.n,.o .str,.o (.sl (.st .zk))]⟩],4,[⟨[],[(7002,.box [.cell q0,.cell q247,.cell (.leaf (.row 17500))]),(17500,q248)],[],[],17501,[.o .str,.o (.sl (.st .zk))]⟩],false⟩|_=>none,fun i=>match i with|4=>some 5|_=>none,fun _=>false⟩
def T194 (k:Nat):TB:=(T193 k).ad ((T193 k).k k 6 Tryz.f6 (C223 k) h223)
def C224 (k:Nat):Ctr:=⟨⟨[(0,q224),(1,q30)],[(0,q184)],[],[],1,[.o (.st .zq),.o .str]⟩,[],[q105],fun x=>Xr k x.1 x.2⟩
def T195 (k:Nat):TB:=(T194 k).ad ((T194 k).k k 106 Tryz.f106 (C224 k) noH)
def C225 (k:Nat):Ctr:=⟨q249,[],[q160],fun x=>xH k x.1 x.2⟩
def h225:Hints:=⟨fun i=>match i with  | _=>none,fun i=>match i with|2=>some ⟨[q135],0,[q23],true⟩|_=>none,fun _=>none,fun _=>false⟩
def T196 (k:Nat):TB:=(T195 k).ad ((T195 k).k k 148 Tryz.f148 (C225 k) h225)
def C226 (k:Nat):Ctr:=⟨q249,[],[q250],fun x=>kC k x.1 x.2⟩
def T197 (k:Nat):TB:=(T196 k).ad ((T196 k).k k 105 Tryz.f105 (C226 k) noH)
def C227 (k:Nat):Ctr:=⟨⟨[(0,q230),(1,q1)],[],[],[],0,[.o (.st .Code),.o .str]⟩,[],[q213],fun x=>YE k x.1 x.2⟩
def T198 (k:Nat):TB:=(T197 k).ad ((T197 k).k k 38 Tryz.f38 (C227 k) noH)
def C228 (k:Nat):Ctr:=⟨⟨[(0,q231),(1,q30)],[(0,q184)],[],[],1,[.o (.st .zk),.o .str]⟩,[],[q105],fun x=>Yk k x.1 x.2⟩
def T199 (k:Nat):TB:=(T198 k).ad ((T198 k).k k 108 Tryz.f108 (C228 k) noH)
def C229 (k:Nat):Ctr:=⟨q251,[],[q160],fun x=>xE k x.1 x.2⟩
def h229:Hints:=⟨fun i=>match i with  | _=>none,fun i=>match i with|2=>some ⟨[q135],0,[q23],true⟩|_=>none,fun _=>none,fun _=>false⟩
def T200 (k:Nat):TB:=(T199 k).ad ((T199 k).k k 165 Tryz.f165 (C229 k) h229)
def C230 (k:Nat):Ctr:=⟨q251,[],[q250],fun x=>je k x.1 x.2⟩
def T201 (k:Nat):TB:=(T200 k).ad ((T200 k).k k 107 Tryz.f107 (C230 k) noH)
def C231 (k:Nat):Ctr:=⟨⟨[(0,q224),(1,q1)],[],[],[],0,[.o (.st .zq),.o .str]⟩,[],[q213],fun x=>Zz k x.1 x.2⟩
def T202 (k:Nat):TB:=(T201 k).ad ((T201 k).k k 39 Tryz.f39 (C231 k) noH)
def C232 (k:Nat):Ctr:=⟨⟨[(0,q76),(1,q10)],[],[],[],0,q252⟩,[],[q7],fun x=>zab k x.1 x.2⟩
def T203 (k:Nat):TB:=(T202 k).ad ((T202 k).k k 43 Tryz.f43 (C232 k) noH)
def C233 (k:Nat):Ctr:=⟨⟨[(0,q254),(1,q133),(2,.one (.clo false 43 []))],[],[],[],0,q255⟩,[],[q7],fun x=>xP k x.1 x.2⟩
def h233:Hints:=⟨fun i=>match i with  | _=>none,fun i=>match i with|4=>some ⟨[q189],0,[q140],true⟩|_=>none,fun _=>none,fun _=>false⟩
def T204 (k:Nat):TB:=(T203 k).ad ((T203 k).k k 90 Tryz.f90 (C233 k) h233)
def C234 (k:Nat):Ctr:=⟨⟨[(0,q254),(1,q133)],[],[],[],0,q255⟩,[],[q7],fun x=>V9 k x.1 x.2⟩
def T205 (k:Nat):TB:=(T204 k).ad ((T204 k).k k 31 Tryz.f31 (C234 k) noH)
def C235 (k:Nat):Ctr:=⟨q132,[],[⟨.one (.ag [.cell q9,.cell q9,.cell q0,.cell (.leaf (.row 0)),.cell q31]),[(0,q57),(1,q58)],[],2,q256⟩],fun x=>qp k x⟩
def T206 (k:Nat):TB:=(T205 k).ad ((T205 k).k k 46 Tryz.f46 (C235 k) noH)
def C236 (k:Nat):Ctr:=⟨q258,[],[q260],fun x=>Xe k x⟩
def h236:Hints:=⟨fun i=>match i with  | _=>none,fun i=>match i with|3=>some ⟨[q261],0,[q262],false⟩|_=>none,fun _=>none,fun _=>false⟩
def T207 (k:Nat):TB:=(T206 k).ad ((T206 k).k k 40 Tryz.f40 (C236 k) h236)
def C237 (k:Nat):Ctr:=⟨⟨[(0,q230),(1,q1),(2,q1),(3,q254)],[],[],[],0,[.o (.st .Code),.o .str,.o .str,.o (.sl (.st .Value))]⟩,[],[⟨.tu [q263,q10],[],[],0,[.o (.st .Machine),.o .int]⟩],fun x=>X0 k x.1 x.2.1 x.2.2.1 x.2.2.2⟩
def T208 (k:Nat):TB:=(T207 k).ad ((T207 k).k k 11 Tryz.f11 (C237 k) noH)
def C238 (k:Nat):Ctr:=⟨⟨[(0,q230),(1,q10)],[],[],[],0,[.o (.st .Code),.o .int]⟩,[],[⟨.tu [q224,q4],[],[],0,[.o (.st .zq),.o .bool]⟩],fun x=>Qx k x.1 x.2⟩
def T209 (k:Nat):TB:=(T208 k).ad ((T208 k).k k 111 Tryz.f111 (C238 k) noH)
def C239 (k:Nat):Ctr:=⟨q264,[],[⟨.tu [q231,q4],[],[],0,[.o (.st .zk),.o .bool]⟩],fun x=>Ua k x.1 x.2⟩
def T210 (k:Nat):TB:=(T209 k).ad ((T209 k).k k 44 Tryz.f44 (C239 k) noH)
def C240 (k:Nat):Ctr:=⟨⟨[(0,q230),(1,q10),(2,q10)],[],[],[],0,q265⟩,[],[⟨q199,[(0,q241)],[],1,[.o (.sl (.st .State))]⟩],fun x=>Wn k x.1 x.2.1 x.2.2⟩
def T211 (k:Nat):TB:=(T210 k).ad ((T210 k).k k 254 Tryz.f254 (C240 k) noH)
def C241 (k:Nat):Ctr:=⟨⟨[(0,q230),(1,q10),(2,q10),(3,q10)],[],[],[],0,[.o (.st .Code),.o .int,.o .int,.o .int]⟩,[],[⟨q199,[(0,.row 4 .bool)],[],1,[.o (.sl .bool)]⟩],fun x=>YD k x.1 x.2.1 x.2.2.1 x.2.2.2⟩
def h241:Hints:=⟨fun i=>match i with  | _=>none,fun i=>match i with|6=>some ⟨[⟨[(38,q13)],[(3,.row 4 .bool)],[],[],7000,[.n,.o (.sl .bool)]⟩],0,[⟨[],[(3,.row 4 .bool)],[],[],7500,[.o (.sl .bool)]⟩],false⟩|_=>none,fun _=>none,fun _=>false⟩
def T212 (k:Nat):TB:=(T211 k).ad ((T211 k).k k 166 Tryz.f166 (C241 k) h241)
def C242 (k:Nat):Ctr:=⟨q264,[],[q7],fun x=>X3 k x.1 x.2⟩
def h242:Hints:=⟨fun i=>match i with  | _=>none,fun i=>match i with|5=>some ⟨[⟨[(65,q13)],[],[],[],6000,[.n]⟩],0,[q155],true⟩|_=>none,fun _=>none,fun _=>false⟩
def T213 (k:Nat):TB:=(T212 k).ad ((T212 k).k k 109 Tryz.f109 (C242 k) h242)
def C243 (k:Nat):Ctr:=⟨q264,[],[q12],fun x=>zaW k x.1 x.2⟩
def T214 (k:Nat):TB:=(T213 k).ad ((T213 k).k k 110 Tryz.f110 (C243 k) noH)
def C244 (k:Nat):Ctr:=⟨q264,[],[q213],fun x=>zaE k x.1 x.2⟩
def T215 (k:Nat):TB:=(T214 k).ad ((T214 k).k k 41 Tryz.f41 (C244 k) noH)
def C245 (k:Nat):Ctr:=⟨⟨[(0,q76),(1,q120)],[],[],[],0,[.o (.st .Value),.o (.st .Field)]⟩,[],[q7],fun x=>Vo k x.1 x.2⟩
def T216 (k:Nat):TB:=(T215 k).ad ((T215 k).k k 113 Tryz.f113 (C245 k) noH)
def C246 (k:Nat):Ctr:=⟨⟨[(0,q254),(1,q137),(2,.one (.clo false 113 []))],[],[],[],0,[.o (.sl (.st .Value)),.o (.sl (.st .Field))]⟩,[],[q7],fun x=>yO k x.1 x.2⟩
def h246:Hints:=⟨fun i=>match i with  | _=>none,fun i=>match i with|4=>some ⟨[q189],0,[q140],true⟩|_=>none,fun _=>none,fun _=>false⟩
def T217 (k:Nat):TB:=(T216 k).ad ((T216 k).k k 112 Tryz.f112 (C246 k) h246)
def C247 (k:Nat):Ctr:=⟨⟨[(0,q230),(1,q10),(2,q254)],[],[],[],0,[.o (.st .Code),.o .int,.o (.sl (.st .Value))]⟩,[],[q7],fun x=>ZP k x.1 x.2.1 x.2.2⟩
def T218 (k:Nat):TB:=(T217 k).ad ((T217 k).k k 42 Tryz.f42 (C247 k) noH)
def C248 (k:Nat):Ctr:=⟨⟨[(0,q30),(1,q76)],[(0,q266),(1,q267),(2,q267),(3,q259),(4,q269)],[],[],5,[.o (.st .Value),.o (.st .yj),.o (.st .yK),.o (.st .yE),.o (.sl (.st .Value)),.o (.sl (.st .Value)),.o (.sl (.st .Value)),.o (.sl (.st .Effect))]⟩,[0,3],[⟨.tu [],[(0,q270),(5,q259)],[3],6,q271⟩],fun x=>wV k x.1 x.2.1 x.2.2.1 x.2.2.2.1 x.2.2.2.2.1 x.2.2.2.2.2.1 x.2.2.2.2.2.2.1 x.2.2.2.2.2.2.2⟩
def T219 (k:Nat):TB:=(T218 k).ad ((T218 k).k k 45 Tryz.f45 (C248 k) noH)
def C249 (k:Nat):Ctr:=⟨q130,[],[⟨.one (.one (.clo false 262 [(.ptr 0 0)])),[(0,q175)],[],1,[.o .int]⟩],fun x=>Zb k x⟩
def T220 (k:Nat):TB:=(T219 k).ad ((T219 k).k k 179 Tryz.f179 (C249 k) noH)
def C250 (k:Nat):Ctr:=⟨⟨[(0,.one (.clo false 168 []))],[],[],[],0,[]⟩,[],[⟨q272,[(0,q175),(1,q273)],[],2,[.o .int]⟩],fun x=>zep k⟩
def T221 (k:Nat):TB:=(T220 k).ad ((T220 k).k k 167 Tryz.f167 (C250 k) noH)
def C251 (k:Nat):Ctr:=⟨⟨[(0,.one (.clo false 169 []))],[],[],[],0,[]⟩,[],[⟨q272,[(0,q175),(1,q274)],[],2,[.o .int]⟩],fun x=>za8 k⟩
def T222 (k:Nat):TB:=(T221 k).ad ((T221 k).k k 167 Tryz.f167 (C251 k) noH)
def C252 (k:Nat):Ctr:=⟨⟨[(0,.one (.clo false 170 []))],[],[],[],0,[]⟩,[],[⟨q272,[(0,q175),(1,q275)],[],2,[.o .int]⟩],fun x=>za9 k⟩
def T223 (k:Nat):TB:=(T222 k).ad ((T222 k).k k 167 Tryz.f167 (C252 k) noH)
def C253 (k:Nat):Ctr:=⟨⟨[(0,.one (.clo false 171 []))],[],[],[],0,[]⟩,[],[⟨q272,[(0,q175),(1,q276)],[],2,[.o .int]⟩],fun x=>za_ k⟩
def T224 (k:Nat):TB:=(T223 k).ad ((T223 k).k k 167 Tryz.f167 (C253 k) noH)
def C254 (k:Nat):Ctr:=⟨⟨[(0,.one (.clo false 173 []))],[],[],[],0,[]⟩,[],[⟨q277,[(0,q175),(1,q278)],[],2,[.o .int]⟩],fun x=>zeq k⟩
def T225 (k:Nat):TB:=(T224 k).ad ((T224 k).k k 172 Tryz.f172 (C254 k) noH)
def C255 (k:Nat):Ctr:=⟨⟨[(0,.one (.clo false 174 []))],[],[],[],0,[]⟩,[],[⟨q277,[(0,q175),(1,q279)],[],2,[.o .int]⟩],fun x=>zba k⟩
def T226 (k:Nat):TB:=(T225 k).ad ((T225 k).k k 172 Tryz.f172 (C255 k) noH)
def C256 (k:Nat):Ctr:=⟨q16,[],[⟨.one (.ag [.cell (.clo false 262 [(.ptr 0 0)]),.cell (.clo false 257 [(.ptr 1 0)])]),[(0,q175),(1,q183)],[],2,[.o .int,.o .str]⟩],fun x=>zdq k x⟩
def T227 (k:Nat):TB:=(T226 k).ad ((T226 k).k k 175 Tryz.f175 (C256 k) noH)
def C257 (k:Nat):Ctr:=⟨q16,[],[⟨.one (.ag [.cell (.clo false 262 [(.ptr 0 0)]),.cell (.clo false 259 [(.ptr 1 0)])]),[(0,q175),(1,q183)],[],2,[.o .int,.o .str]⟩],fun x=>uV k x⟩
def T228 (k:Nat):TB:=(T227 k).ad ((T227 k).k k 176 Tryz.f176 (C257 k) noH)
def C258 (k:Nat):Ctr:=⟨⟨[(0,q1),(1,q10)],[],[],[],0,[.o .str,.o .int]⟩,[],[⟨.one (.ag [.cell (.clo false 262 [(.ptr 0 0)]),.cell (.clo false 260 [(.ptr 1 0)])]),[(0,q175),(1,q183)],[],2,[.o .int,.o .str]⟩],fun x=>WB k x.1 x.2⟩
def T229 (k:Nat):TB:=(T228 k).ad ((T228 k).k k 177 Tryz.f177 (C258 k) noH)
def C259 (k:Nat):Ctr:=⟨q16,[],[⟨.one (.ag [.cell (.clo false 261 []),.cell (.clo false 260 [(.ptr 0 0)])]),[(0,q183)],[],1,[.o .str]⟩],fun x=>zdp k x⟩
def T230 (k:Nat):TB:=(T229 k).ad ((T229 k).k k 178 Tryz.f178 (C259 k) noH)
def C260 (k:Nat):Ctr:=⟨q229,[],[⟨.one (.ag [.cell (.clo false 262 [(.ptr 0 0)]),.cell (.clo false 263 [(.ptr 1 0)])]),[(0,q175),(1,q175)],[],2,[.o .int,.o .int]⟩],fun x=>zbp k x.1 x.2⟩
def T231 (k:Nat):TB:=(T230 k).ad ((T230 k).k k 187 Tryz.f187 (C260 k) noH)
def C261 (k:Nat):Ctr:=⟨⟨[(0,q30)],[(0,q280),(1,q267),(2,q267),(3,q267),(4,q269)],[],[],5,q281⟩,[],[⟨.one (.one q165),((5,q282)::(6,q175)::(7,q273)::(8,q175)::(9,q274)::(10,q175)::(11,q275)::(12,q175)::(13,q276)::(14,q175)::(15,q278)::(16,q175)::(17,q279)::(18,q175)::(19,q183)::(20,q175)::(21,q183)::(22,q175)::(23,q183)::(24,q175)::(25,q183)::(26,q175)::(27,q183)::(28,q175)::(29,q183)::(30,q175)::(31,q183)::(32,q175)::(33,q183)::(34,q175)::(35,q183)::(36,q175)::(37,q183)::(38,q175)::(39,q183)::(40,q175)::(41,q183)::(42,q175)::(43,q183)::(44,q175)::(45,q183)::(46,q175)::(47,q183)::(48,q175)::(49,q183)::(50,q175)::(51,q183)::(52,q175)::(53,q183)::(54,q175)::(55,q183)::(56,q183)::(57,q183)::(58,q175)::(59,q175)::(60,q65)::(61,q175)::(62,q175)::(63,q175)::(64,q175)::(65,q175)::(66,q175)::(67,q175)::(68,q175)::(69,q175)::[]),[],70,(.o .int::.o .int::.o .int::.o .int::.o .int::.o .int::.o .int::.o .str::.o .int::.o .str::.o .int::.o .str::.o .int::.o .str::.o .int::.o .str::.o .int::.o .str::.o .int::.o .str::.o .int::.o .str::.o .int::.o .str::.o .int::.o .str::.o .int::.o .str::.o .int::.o .str::.o .int::.o .str::.o .int::.o .str::.o .int::.o .str::.o .int::.o .str::.o .int::.o .str::.o .int::.o .str::.o .int::.o .str::.o .str::.o .str::.o .int::.o .int::.o .int::.o .int::.o .int::.o .int::.o .int::.o .int::.o .int::.o .int::.o .int::[])⟩],fun x=>Yh k x.1 x.2.1 x.2.2.1 x.2.2.2.1 x.2.2.2.2.1 x.2.2.2.2.2.1 x.2.2.2.2.2.2⟩
def h261:Hints:=⟨fun i=>match i with|4=>some ⟨[⟨[(3,q13)],[],[],[],5000,[.n]⟩],false⟩|_=>none,fun i=>match i with  | _=>none,fun _=>none,fun _=>false⟩
def T232 (k:Nat):TB:=(T231 k).ad ((T231 k).k k 114 Tryz.f114 (C261 k) h261)
def C262 (k:Nat):Ctr:=⟨⟨[(0,q24)],[(0,q267)],[],[],1,q257⟩,[],[⟨q283,[(1,q259)],[],2,q257⟩],fun x=>JV k x⟩
def h262:Hints:=⟨fun i=>match i with  | _=>none,fun i=>match i with|3=>some ⟨[⟨[(9,q13)],[(1,q259)],[],[],4000,[.n,.o (.sl (.st .Value))]⟩],0,[⟨[],[(1,q259)],[],[],4500,q257⟩],false⟩|_=>none,fun _=>none,fun _=>false⟩
def T233 (k:Nat):TB:=(T232 k).ad ((T232 k).k k 40 Tryz.f40 (C262 k) h262)
def C263 (k:Nat):Ctr:=⟨⟨[(0,q232),(1,q30)],[(0,q176)],[],[],1,[.o (.st .Instr),.o .int]⟩,[],[q160],fun x=>zJ k x.1 x.2⟩
def T234 (k:Nat):TB:=(T233 k).ad ((T233 k).k k 262 Tryz.f262 (C263 k) noH)
def C264 (k:Nat):Ctr:=⟨q285,[],[q286],fun x=>Y1 k x.1 x.2.1 x.2.2.1 x.2.2.2.1 x.2.2.2.2.1 x.2.2.2.2.2.1 x.2.2.2.2.2.2.1 x.2.2.2.2.2.2.2⟩
def T235 (k:Nat):TB:=(T234 k).ad ((T234 k).k k 168 Tryz.f168 (C264 k) noH)
def C265 (k:Nat):Ctr:=⟨⟨[(0,q30),(1,q232),(2,q254),(3,q287)],[(0,q266),(1,q267),(2,q267),(3,q259),(4,q269),(5,q288)],[],[],6,q289⟩,[0,3],[q291],fun x=>zad k x.1 x.2.1 x.2.2.1 x.2.2.2.1 x.2.2.2.2.1 x.2.2.2.2.2.1 x.2.2.2.2.2.2.1 x.2.2.2.2.2.2.2.1 x.2.2.2.2.2.2.2.2⟩
def T236 (k:Nat):TB:=(T235 k).ad ((T235 k).k k 255 Tryz.f255 (C265 k) noH)
def C266 (k:Nat):Ctr:=⟨q285,[],[q286],fun x=>Y2 k x.1 x.2.1 x.2.2.1 x.2.2.2.1 x.2.2.2.2.1 x.2.2.2.2.2.1 x.2.2.2.2.2.2.1 x.2.2.2.2.2.2.2⟩
def T237 (k:Nat):TB:=(T236 k).ad ((T236 k).k k 169 Tryz.f169 (C266 k) noH)
def C267 (k:Nat):Ctr:=⟨⟨[(0,q30),(1,q232),(2,q254),(3,q287)],[(0,q266),(1,q267),(2,q267),(3,q259),(4,q269),(5,q292)],[],[],6,q289⟩,[0,3],[q291],fun x=>U8 k x.1 x.2.1 x.2.2.1 x.2.2.2.1 x.2.2.2.2.1 x.2.2.2.2.2.1 x.2.2.2.2.2.2.1 x.2.2.2.2.2.2.2.1 x.2.2.2.2.2.2.2.2⟩
def T238 (k:Nat):TB:=(T237 k).ad ((T237 k).k k 255 Tryz.f255 (C267 k) noH)
def C268 (k:Nat):Ctr:=⟨q285,[],[q286],fun x=>Y3 k x.1 x.2.1 x.2.2.1 x.2.2.2.1 x.2.2.2.2.1 x.2.2.2.2.2.1 x.2.2.2.2.2.2.1 x.2.2.2.2.2.2.2⟩
def T239 (k:Nat):TB:=(T238 k).ad ((T238 k).k k 170 Tryz.f170 (C268 k) noH)
def C269 (k:Nat):Ctr:=⟨⟨[(0,q30),(1,q232),(2,q254),(3,q287)],[(0,q266),(1,q267),(2,q267),(3,q259),(4,q269),(5,q293)],[],[],6,q289⟩,[0,3],[q291],fun x=>U9 k x.1 x.2.1 x.2.2.1 x.2.2.2.1 x.2.2.2.2.1 x.2.2.2.2.2.1 x.2.2.2.2.2.2.1 x.2.2.2.2.2.2.2.1 x.2.2.2.2.2.2.2.2⟩
def T240 (k:Nat):TB:=(T239 k).ad ((T239 k).k k 255 Tryz.f255 (C269 k) noH)
def C270 (k:Nat):Ctr:=⟨q285,[],[q286],fun x=>Y4 k x.1 x.2.1 x.2.2.1 x.2.2.2.1 x.2.2.2.2.1 x.2.2.2.2.2.1 x.2.2.2.2.2.2.1 x.2.2.2.2.2.2.2⟩
def T241 (k:Nat):TB:=(T240 k).ad ((T240 k).k k 171 Tryz.f171 (C270 k) noH)
def C271 (k:Nat):Ctr:=⟨⟨[(0,q30),(1,q232),(2,q254),(3,q287)],[(0,q266),(1,q267),(2,q267),(3,q259),(4,q269),(5,q294)],[],[],6,q289⟩,[0,3],[q291],fun x=>Qa k x.1 x.2.1 x.2.2.1 x.2.2.2.1 x.2.2.2.2.1 x.2.2.2.2.2.1 x.2.2.2.2.2.2.1 x.2.2.2.2.2.2.2.1 x.2.2.2.2.2.2.2.2⟩
def T242 (k:Nat):TB:=(T241 k).ad ((T241 k).k k 255 Tryz.f255 (C271 k) noH)
def C272 (k:Nat):Ctr:=⟨q285,[],[q295],fun x=>Y5 k x.1 x.2.1 x.2.2.1 x.2.2.2.1 x.2.2.2.2.1 x.2.2.2.2.2.1 x.2.2.2.2.2.2.1 x.2.2.2.2.2.2.2⟩
def T243 (k:Nat):TB:=(T242 k).ad ((T242 k).k k 173 Tryz.f173 (C272 k) noH)
def C273 (k:Nat):Ctr:=⟨⟨[(0,q30),(1,q232),(2,q254),(3,q287)],[(0,q280),(1,q259),(2,q267),(3,q267),(4,q269),(5,q296)],[],[],6,q289⟩,[1],[⟨q11,[(1,q259)],[],6,[.o .int,.o (.sl (.st .Value))]⟩],fun x=>zae k x.1 x.2.1 x.2.2.1 x.2.2.2.1 x.2.2.2.2.1 x.2.2.2.2.2.1 x.2.2.2.2.2.2.1 x.2.2.2.2.2.2.2.1 x.2.2.2.2.2.2.2.2⟩
def T244 (k:Nat):TB:=(T243 k).ad ((T243 k).k k 256 Tryz.f256 (C273 k) noH)
def C274 (k:Nat):Ctr:=⟨q285,[],[q297],fun x=>Y6 k x.1 x.2.1 x.2.2.1 x.2.2.2.1 x.2.2.2.2.1 x.2.2.2.2.2.1 x.2.2.2.2.2.2.1 x.2.2.2.2.2.2.2⟩
def T245 (k:Nat):TB:=(T244 k).ad ((T244 k).k k 174 Tryz.f174 (C274 k) noH)
def C275 (k:Nat):Ctr:=⟨⟨[(0,q30),(1,q232),(2,q254),(3,q287)],[(0,q280),(1,q267),(2,q259),(3,q267),(4,q269),(5,q298)],[],[],6,q289⟩,[2],[⟨q11,[(2,q259)],[],6,[.o .int,.o (.sl (.st .Value))]⟩],fun x=>Qb k x.1 x.2.1 x.2.2.1 x.2.2.2.1 x.2.2.2.2.1 x.2.2.2.2.2.1 x.2.2.2.2.2.2.1 x.2.2.2.2.2.2.2.1 x.2.2.2.2.2.2.2.2⟩
def T246 (k:Nat):TB:=(T245 k).ad ((T245 k).k k 256 Tryz.f256 (C275 k) noH)
def C276 (k:Nat):Ctr:=⟨⟨[(0,q4)],[],[],[],0,q6⟩,[],[q299],fun x=>ZQ k x⟩
def T247 (k:Nat):TB:=(T246 k).ad ((T246 k).k k 313 Tryz.f313 (C276 k) noH)
def C277 (k:Nat):Ctr:=⟨⟨[(0,q1),(1,q10),(2,q10)],[],[],[],0,[.o .str,.o .int,.o .int]⟩,[],[⟨.tu [q10,q10],[],[],0,[.o .int,.o .int]⟩],fun x=>XZ k x.1 x.2.1 x.2.2⟩
def h277:Hints:=⟨fun i=>match i with|25=>some ⟨[⟨[],[],[],[],26000,[]⟩],true⟩|_=>none,fun i=>match i with  | _=>none,fun _=>none,fun _=>false⟩
def T248 (k:Nat):TB:=(T247 k).ad ((T247 k).k k 314 Tryz.f314 (C277 k) h277)
def C278 (k:Nat):Ctr:=⟨q130,[],[q299],fun x=>Qw k x⟩
def T249 (k:Nat):TB:=(T248 k).ad ((T248 k).k k 315 Tryz.f315 (C278 k) noH)
def C279 (k:Nat):Ctr:=⟨⟨[(0,q1),(1,q76)],[],[],[],0,[.o .str,.o (.st .Value)]⟩,[],[q301],fun x=>WM k x.1 x.2⟩
def T250 (k:Nat):TB:=(T249 k).ad ((T249 k).k k 247 Tryz.f247 (C279 k) noH)
def C280 (k:Nat):Ctr:=⟨⟨[(0,q30),(1,q76),(2,q10)],[(0,q266),(1,q267),(2,q267),(3,q259),(4,q269)],[],[],5,[.o (.st .Value),.o .int,.o (.st .yj),.o (.st .yK),.o (.st .yE),.o (.sl (.st .Value)),.o (.sl (.st .Value)),.o (.sl (.st .Value)),.o (.sl (.st .Effect))]⟩,[0,3],[⟨q11,[(0,q270),(5,q259)],[3],6,q290⟩],fun x=>uU k x.1 x.2.1 x.2.2.1 x.2.2.2.1 x.2.2.2.2.1 x.2.2.2.2.2.1 x.2.2.2.2.2.2.1 x.2.2.2.2.2.2.2.1 x.2.2.2.2.2.2.2.2⟩
def h280:Hints:=⟨fun i=>match i with|3=>some ⟨[⟨[],[(0,.box [.part (.st .yj),.cell q31,.part (.st .yK),.cell q51,.cell q19,.cell q67,.part (.st .yE)]),(4000,q259)],[],[3],4001,q271⟩],false⟩|_=>none,fun i=>match i with  | _=>none,fun _=>none,fun _=>false⟩
def T251 (k:Nat):TB:=(T250 k).ad ((T250 k).k k 258 Tryz.f258 (C280 k) h280)
def C281 (k:Nat):Ctr:=⟨q302,[0,3],[q291],fun x=>Qy k x.1 x.2.1 x.2.2.1 x.2.2.2.1 x.2.2.2.2.1 x.2.2.2.2.2.1 x.2.2.2.2.2.2.1 x.2.2.2.2.2.2.2.1 x.2.2.2.2.2.2.2.2.1 x.2.2.2.2.2.2.2.2.2⟩
def T252 (k:Nat):TB:=(T251 k).ad ((T251 k).k k 257 Tryz.f257 (C281 k) noH)
def C282 (k:Nat):Ctr:=⟨q151,[],[q7],fun x=>zac k x.1 x.2⟩
def T253 (k:Nat):TB:=(T252 k).ad ((T252 k).k k 317 Tryz.f317 (C282 k) noH)
def C283 (k:Nat):Ctr:=⟨⟨[(0,q1),(1,q76),(2,q76)],[],[],[],0,[.o .str,.o (.st .Value),.o (.st .Value)]⟩,[],[q301],fun x=>W9 k x.1 x.2.1 x.2.2⟩
def T254 (k:Nat):TB:=(T253 k).ad ((T253 k).k k 250 Tryz.f250 (C283 k) noH)
def C284 (k:Nat):Ctr:=⟨q302,[0,3],[q291],fun x=>xX k x.1 x.2.1 x.2.2.1 x.2.2.2.1 x.2.2.2.2.1 x.2.2.2.2.2.1 x.2.2.2.2.2.2.1 x.2.2.2.2.2.2.2.1 x.2.2.2.2.2.2.2.2.1 x.2.2.2.2.2.2.2.2.2⟩
def T255 (k:Nat):TB:=(T254 k).ad ((T254 k).k k 259 Tryz.f259 (C284 k) noH)
def C285 (k:Nat):Ctr:=⟨q132,[],[q12],fun x=>WE k x⟩
def T256 (k:Nat):TB:=(T255 k).ad ((T255 k).k k 318 Tryz.f318 (C285 k) noH)
def C286 (k:Nat):Ctr:=⟨⟨[(0,q1),(1,q254)],[],[],[],0,[.o .str,.o (.sl (.st .Value))]⟩,[],[q301],fun x=>VG k x.1 x.2⟩
def h286:Hints:=⟨fun i=>match i with|30=>some ⟨[⟨[],[(4,.box [.cell q9,.cell q9,.cell q0,.cell (.leaf (.row 31000)),.cell (.leaf (.row 31001))]),(31000,q57),(31001,q58)],[],[2,3],31002,q256⟩],false⟩|41=>some ⟨[⟨[],[(2,q57),(3,q58)],[],[],42000,[.o (.sl .int),.o (.sl .str)]⟩],true⟩|_=>none,fun i=>match i with|5=>some ⟨[⟨[(20,q13)],[(1,.box [.cell (.leaf (.num .i64 4)),.cell q303,.cell q0,.cell (.leaf (.row 6000)),.cell q124]),(6000,q57)],[],[],6001,[.n,.o .str,.o (.sl .int)]⟩],1,[⟨[],[(1,.box [.cell (.leaf (.num .i64 4)),.cell q303,.cell q0,.cell (.leaf (.row 6500)),.cell q124]),(6500,q57)],[],[],6501,[.o .str,.o (.sl .int)]⟩],false⟩|13=>some ⟨[⟨[(38,q13)],[(1,.box [.cell (.leaf (.num .i64 5)),.cell q303,.cell q0,.cell q124,.cell (.leaf (.row 14000))]),(14000,q58)],[],[],14001,[.n,.o .str,.o (.sl .str)]⟩],3,[⟨[],[(1,.box [.cell (.leaf (.num .i64 5)),.cell q303,.cell q0,.cell q124,.cell (.leaf (.row 14500))]),(14500,q58)],[],[],14501,[.o .str,.o (.sl .str)]⟩],false⟩|_=>none,fun _=>none,fun _=>false⟩
def T257 (k:Nat):TB:=(T256 k).ad ((T256 k).k k 252 Tryz.f252 (C286 k) h286)
def C287 (k:Nat):Ctr:=⟨q302,[0,3],[q291],fun x=>jB k x.1 x.2.1 x.2.2.1 x.2.2.2.1 x.2.2.2.2.1 x.2.2.2.2.2.1 x.2.2.2.2.2.2.1 x.2.2.2.2.2.2.2.1 x.2.2.2.2.2.2.2.2.1 x.2.2.2.2.2.2.2.2.2⟩
def T258 (k:Nat):TB:=(T257 k).ad ((T257 k).k k 260 Tryz.f260 (C287 k) noH)
def C288 (k:Nat):Ctr:=⟨⟨[(0,q232)],[],[],[],0,[.o (.st .Instr)]⟩,[],[q12],fun x=>WC k x⟩
def T259 (k:Nat):TB:=(T258 k).ad ((T258 k).k k 261 Tryz.f261 (C288 k) noH)
def C289 (k:Nat):Ctr:=⟨q304,[0],[q305],fun x=>zca k x.1 x.2.1 x.2.2.1 x.2.2.2.1 x.2.2.2.2.1 x.2.2.2.2.2.1 x.2.2.2.2.2.2.1 x.2.2.2.2.2.2.2.1 x.2.2.2.2.2.2.2.2⟩
def h289:Hints:=⟨fun i=>match i with|3=>some ⟨[⟨[],[(0,q266)],[],[],4000,q306⟩],false⟩|_=>none,fun i=>match i with  | _=>none,fun _=>none,fun _=>false⟩
def T260 (k:Nat):TB:=(T259 k).ad ((T259 k).k k 180 Tryz.f180 (C289 k) h289)
def C290 (k:Nat):Ctr:=⟨q285,[],[⟨.tu [q224,q231],[],[],5,[.o (.st .zq),.o (.st .zk)]⟩],fun x=>vP k x.1 x.2.1 x.2.2.1 x.2.2.2.1 x.2.2.2.2.1 x.2.2.2.2.2.1 x.2.2.2.2.2.2.1 x.2.2.2.2.2.2.2⟩
def T261 (k:Nat):TB:=(T260 k).ad ((T260 k).k k 182 Tryz.f182 (C290 k) noH)
def C291 (k:Nat):Ctr:=⟨⟨[(0,q232),(1,q30)],[(0,q50),(1,.rd (.box [.part (.st .yj),.cell q51,.part (.st .yK),.cell q86,.cell q67,.cell q61,.part (.st .yE)])),(2,q267),(3,q267),(4,q267),(5,q269)],[],[],6,q284⟩,[],[⟨q11,[],[],6,[.o .int]⟩],fun x=>Zc k x.1 x.2.1 x.2.2.1 x.2.2.2.1 x.2.2.2.2.1 x.2.2.2.2.2.1 x.2.2.2.2.2.2.1 x.2.2.2.2.2.2.2⟩
def T262 (k:Nat):TB:=(T261 k).ad ((T261 k).k k 181 Tryz.f181 (C291 k) noH)
def C292 (k:Nat):Ctr:=⟨q304,[0],[q305],fun x=>zfo k x.1 x.2.1 x.2.2.1 x.2.2.2.1 x.2.2.2.2.1 x.2.2.2.2.2.1 x.2.2.2.2.2.2.1 x.2.2.2.2.2.2.2.1 x.2.2.2.2.2.2.2.2⟩
def T263 (k:Nat):TB:=(T262 k).ad ((T262 k).k k 183 Tryz.f183 (C292 k) noH)
def C293 (k:Nat):Ctr:=⟨q307,[],[q308],fun x=>Vs k x.1 x.2.1 x.2.2.1 x.2.2.2.1 x.2.2.2.2.1 x.2.2.2.2.2.1 x.2.2.2.2.2.2.1 x.2.2.2.2.2.2.2.1 x.2.2.2.2.2.2.2.2⟩
def T264 (k:Nat):TB:=(T263 k).ad ((T263 k).k k 184 Tryz.f184 (C293 k) noH)
def C294 (k:Nat):Ctr:=⟨q304,[0],[q305],fun x=>zb_ k x.1 x.2.1 x.2.2.1 x.2.2.2.1 x.2.2.2.2.1 x.2.2.2.2.2.1 x.2.2.2.2.2.2.1 x.2.2.2.2.2.2.2.1 x.2.2.2.2.2.2.2.2⟩
def h294:Hints:=⟨fun i=>match i with|5=>some ⟨[⟨[],[(0,q266)],[],[],6000,q306⟩],false⟩|_=>none,fun i=>match i with  | _=>none,fun _=>none,fun _=>false⟩
def T265 (k:Nat):TB:=(T264 k).ad ((T264 k).k k 185 Tryz.f185 (C294 k) h294)
def C295 (k:Nat):Ctr:=⟨q307,[],[q308],fun x=>Vt k x.1 x.2.1 x.2.2.1 x.2.2.2.1 x.2.2.2.2.1 x.2.2.2.2.2.1 x.2.2.2.2.2.2.1 x.2.2.2.2.2.2.2.1 x.2.2.2.2.2.2.2.2⟩
def T266 (k:Nat):TB:=(T265 k).ad ((T265 k).k k 186 Tryz.f186 (C295 k) noH)
def C296 (k:Nat):Ctr:=⟨⟨[(0,q10),(1,q254),(2,q10)],[],[],[],0,[.o .int,.o (.sl (.st .Value)),.o .int]⟩,[],[⟨.tu [.ag [.part (.st .Effect)],q10],[],[],0,[.o (.st .Effect),.o .int]⟩],fun x=>za7 k x.1 x.2.1 x.2.2⟩
def h296:Hints:=⟨fun i=>match i with|11=>some ⟨[⟨[],[(1,.box [.part (.st .Effect)])],[],[],12000,[.o (.st .Effect)]⟩],true⟩|_=>none,fun i=>match i with  | _=>none,fun _=>none,fun _=>false⟩
def T267 (k:Nat):TB:=(T266 k).ad ((T266 k).k k 164 Tryz.f164 (C296 k) h296)
def C297 (k:Nat):Ctr:=⟨⟨[(0,q30),(1,q232),(2,q254),(3,q287)],[(0,q266),(1,q267),(2,q267),(3,q267),(4,q268),(5,q176)],[],[],6,[.o (.st .Instr),.o (.sl (.st .Value)),.o (.st .yj),.o (.st .yK),.o (.st .yE),.o (.sl (.st .Value)),.o (.sl (.st .Value)),.o (.sl (.st .Value)),.o (.sl (.st .Effect)),.o .int]⟩,[0,4],[⟨q11,[(0,.box [.part (.st .yj),.cell q31,.part (.st .yK),.cell q51,.cell q86,.cell q64,.part (.st .yE)]),(6,q268)],[4],7,[.o .int,.o (.st .yj),.o (.st .yK),.o (.st .yE),.o (.sl (.st .Effect))]⟩],fun x=>WA k x.1 x.2.1 x.2.2.1 x.2.2.2.1 x.2.2.2.2.1 x.2.2.2.2.2.1 x.2.2.2.2.2.2.1 x.2.2.2.2.2.2.2.1 x.2.2.2.2.2.2.2.2.1 x.2.2.2.2.2.2.2.2.2⟩
def h297:Hints:=⟨fun i=>match i with|4=>some ⟨[⟨[],[(0,.box [.part (.st .yj),.cell q31,.part (.st .yK),.cell q51,.cell q86,.cell q27,.part (.st .yE)]),(5000,q268)],[],[4],5001,[.o (.st .yj),.o (.st .yK),.o (.st .yE),.o (.sl (.st .Effect))]⟩],false⟩|_=>none,fun i=>match i with  | _=>none,fun _=>none,fun _=>false⟩
def T268 (k:Nat):TB:=(T267 k).ad ((T267 k).k k 263 Tryz.f263 (C297 k) h297)
def C298 (k:Nat):Ctr:=⟨⟨[(0,q30),(1,.one q165)],((0,q266)::(1,q259)::(2,q259)::(3,q259)::(4,q268)::(5,.rd (q282))::(6,q176)::(7,q288)::(8,q176)::(9,q292)::(10,q176)::(11,q293)::(12,q176)::(13,q294)::(14,q176)::(15,q296)::(16,q176)::(17,q298)::(18,q176)::(19,q184)::(20,q176)::(21,q184)::(22,q176)::(23,q184)::(24,q176)::(25,q184)::(26,q176)::(27,q184)::(28,q176)::(29,q184)::(30,q176)::(31,q184)::(32,q176)::(33,q184)::(34,q176)::(35,q184)::(36,q176)::(37,q184)::(38,q176)::(39,q184)::(40,q176)::(41,q184)::(42,q176)::(43,q184)::(44,q176)::(45,q184)::(46,q176)::(47,q184)::(48,q176)::(49,q184)::(50,q176)::(51,q184)::(52,q176)::(53,q184)::(54,q176)::(55,q184)::(56,q184)::(57,q184)::(58,q176)::(59,q176)::(60,q66)::(61,q176)::(62,q176)::(63,q176)::(64,q176)::(65,q176)::(66,q176)::(67,q176)::(68,q176)::(69,q176)::[]),[],[],70,(.o (.st .yj)::.o (.st .yK)::.o (.st .yE)::.o (.sl (.st .Value))::.o (.sl (.st .Value))::.o (.sl (.st .Value))::.o (.sl (.st .Effect))::.o .int::.o .int::.o .int::.o .int::.o .int::.o .int::.o .int::.o .str::.o .int::.o .str::.o .int::.o .str::.o .int::.o .str::.o .int::.o .str::.o .int::.o .str::.o .int::.o .str::.o .int::.o .str::.o .int::.o .str::.o .int::.o .str::.o .int::.o .str::.o .int::.o .str::.o .int::.o .str::.o .int::.o .str::.o .int::.o .str::.o .int::.o .str::.o .int::.o .str::.o .int::.o .str::.o .int::.o .str::.o .str::.o .str::.o .int::.o .int::.o .int::.o .int::.o .int::.o .int::.o .int::.o .int::.o .int::.o .int::.o .int::[])⟩,[0,1,2,3,4],[⟨q11,[(0,.box [.part (.st .yj),.cell q31,.part (.st .yK),.cell q51,.cell (.leaf (.row 70)),.cell (.leaf (.row 71)),.part (.st .yE)]),(1,q259),(2,q259),(70,q259),(71,q268)],[3,4],72,q309⟩],fun x=>zI k x.1 x.2.1 x.2.2.1 x.2.2.2.1 x.2.2.2.2.1 x.2.2.2.2.2.1 x.2.2.2.2.2.2.1 x.2.2.2.2.2.2.2.1 x.2.2.2.2.2.2.2.2.1 x.2.2.2.2.2.2.2.2.2.1 x.2.2.2.2.2.2.2.2.2.2.1 x.2.2.2.2.2.2.2.2.2.2.2.1 x.2.2.2.2.2.2.2.2.2.2.2.2.1 x.2.2.2.2.2.2.2.2.2.2.2.2.2.1 x.2.2.2.2.2.2.2.2.2.2.2.2.2.2.1 x.2.2.2.2.2.2.2.2.2.2.2.2.2.2.2.1 x.2.2.2.2.2.2.2.2.2.2.2.2.2.2.2.2.1 x.2.2.2.2.2.2.2.2.2.2.2.2.2.2.2.2.2.1 x.2.2.2.2.2.2.2.2.2.2.2.2.2.2.2.2.2.2.1 x.2.2.2.2.2.2.2.2.2.2.2.2.2.2.2.2.2.2.2.1 x.2.2.2.2.2.2.2.2.2.2.2.2.2.2.2.2.2.2.2.2.1 x.2.2.2.2.2.2.2.2.2.2.2.2.2.2.2.2.2.2.2.2.2.1 x.2.2.2.2.2.2.2.2.2.2.2.2.2.2.2.2.2.2.2.2.2.2.1 x.2.2.2.2.2.2.2.2.2.2.2.2.2.2.2.2.2.2.2.2.2.2.2.1 x.2.2.2.2.2.2.2.2.2.2.2.2.2.2.2.2.2.2.2.2.2.2.2.2.1 x.2.2.2.2.2.2.2.2.2.2.2.2.2.2.2.2.2.2.2.2.2.2.2.2.2.1 x.2.2.2.2.2.2.2.2.2.2.2.2.2.2.2.2.2.2.2.2.2.2.2.2.2.2.1 x.2.2.2.2.2.2.2.2.2.2.2.2.2.2.2.2.2.2.2.2.2.2.2.2.2.2.2.1 x.2.2.2.2.2.2.2.2.2.2.2.2.2.2.2.2.2.2.2.2.2.2.2.2.2.2.2.2.1 x.2.2.2.2.2.2.2.2.2.2.2.2.2.2.2.2.2.2.2.2.2.2.2.2.2.2.2.2.2.1 x.2.2.2.2.2.2.2.2.2.2.2.2.2.2.2.2.2.2.2.2.2.2.2.2.2.2.2.2.2.2.1 x.2.2.2.2.2.2.2.2.2.2.2.2.2.2.2.2.2.2.2.2.2.2.2.2.2.2.2.2.2.2.2.1 x.2.2.2.2.2.2.2.2.2.2.2.2.2.2.2.2.2.2.2.2.2.2.2.2.2.2.2.2.2.2.2.2.1 x.2.2.2.2.2.2.2.2.2.2.2.2.2.2.2.2.2.2.2.2.2.2.2.2.2.2.2.2.2.2.2.2.2.1 x.2.2.2.2.2.2.2.2.2.2.2.2.2.2.2.2.2.2.2.2.2.2.2.2.2.2.2.2.2.2.2.2.2.2.1 x.2.2.2.2.2.2.2.2.2.2.2.2.2.2.2.2.2.2.2.2.2.2.2.2.2.2.2.2.2.2.2.2.2.2.2.1 x.2.2.2.2.2.2.2.2.2.2.2.2.2.2.2.2.2.2.2.2.2.2.2.2.2.2.2.2.2.2.2.2.2.2.2.2.1 x.2.2.2.2.2.2.2.2.2.2.2.2.2.2.2.2.2.2.2.2.2.2.2.2.2.2.2.2.2.2.2.2.2.2.2.2.2.1 x.2.2.2.2.2.2.2.2.2.2.2.2.2.2.2.2.2.2.2.2.2.2.2.2.2.2.2.2.2.2.2.2.2.2.2.2.2.2.1 x.2.2.2.2.2.2.2.2.2.2.2.2.2.2.2.2.2.2.2.2.2.2.2.2.2.2.2.2.2.2.2.2.2.2.2.2.2.2.2.1 x.2.2.2.2.2.2.2.2.2.2.2.2.2.2.2.2.2.2.2.2.2.2.2.2.2.2.2.2.2.2.2.2.2.2.2.2.2.2.2.2.1 x.2.2.2.2.2.2.2.2.2.2.2.2.2.2.2.2.2.2.2.2.2.2.2.2.2.2.2.2.2.2.2.2.2.2.2.2.2.2.2.2.2.1 x.2.2.2.2.2.2.2.2.2.2.2.2.2.2.2.2.2.2.2.2.2.2.2.2.2.2.2.2.2.2.2.2.2.2.2.2.2.2.2.2.2.2.1 x.2.2.2.2.2.2.2.2.2.2.2.2.2.2.2.2.2.2.2.2.2.2.2.2.2.2.2.2.2.2.2.2.2.2.2.2.2.2.2.2.2.2.2.1 x.2.2.2.2.2.2.2.2.2.2.2.2.2.2.2.2.2.2.2.2.2.2.2.2.2.2.2.2.2.2.2.2.2.2.2.2.2.2.2.2.2.2.2.2.1 x.2.2.2.2.2.2.2.2.2.2.2.2.2.2.2.2.2.2.2.2.2.2.2.2.2.2.2.2.2.2.2.2.2.2.2.2.2.2.2.2.2.2.2.2.2.1 x.2.2.2.2.2.2.2.2.2.2.2.2.2.2.2.2.2.2.2.2.2.2.2.2.2.2.2.2.2.2.2.2.2.2.2.2.2.2.2.2.2.2.2.2.2.2.1 x.2.2.2.2.2.2.2.2.2.2.2.2.2.2.2.2.2.2.2.2.2.2.2.2.2.2.2.2.2.2.2.2.2.2.2.2.2.2.2.2.2.2.2.2.2.2.2.1 x.2.2.2.2.2.2.2.2.2.2.2.2.2.2.2.2.2.2.2.2.2.2.2.2.2.2.2.2.2.2.2.2.2.2.2.2.2.2.2.2.2.2.2.2.2.2.2.2.1 x.2.2.2.2.2.2.2.2.2.2.2.2.2.2.2.2.2.2.2.2.2.2.2.2.2.2.2.2.2.2.2.2.2.2.2.2.2.2.2.2.2.2.2.2.2.2.2.2.2.1 x.2.2.2.2.2.2.2.2.2.2.2.2.2.2.2.2.2.2.2.2.2.2.2.2.2.2.2.2.2.2.2.2.2.2.2.2.2.2.2.2.2.2.2.2.2.2.2.2.2.2.1 x.2.2.2.2.2.2.2.2.2.2.2.2.2.2.2.2.2.2.2.2.2.2.2.2.2.2.2.2.2.2.2.2.2.2.2.2.2.2.2.2.2.2.2.2.2.2.2.2.2.2.2.1 x.2.2.2.2.2.2.2.2.2.2.2.2.2.2.2.2.2.2.2.2.2.2.2.2.2.2.2.2.2.2.2.2.2.2.2.2.2.2.2.2.2.2.2.2.2.2.2.2.2.2.2.2.1 x.2.2.2.2.2.2.2.2.2.2.2.2.2.2.2.2.2.2.2.2.2.2.2.2.2.2.2.2.2.2.2.2.2.2.2.2.2.2.2.2.2.2.2.2.2.2.2.2.2.2.2.2.2.1 x.2.2.2.2.2.2.2.2.2.2.2.2.2.2.2.2.2.2.2.2.2.2.2.2.2.2.2.2.2.2.2.2.2.2.2.2.2.2.2.2.2.2.2.2.2.2.2.2.2.2.2.2.2.2.1 x.2.2.2.2.2.2.2.2.2.2.2.2.2.2.2.2.2.2.2.2.2.2.2.2.2.2.2.2.2.2.2.2.2.2.2.2.2.2.2.2.2.2.2.2.2.2.2.2.2.2.2.2.2.2.2.1 x.2.2.2.2.2.2.2.2.2.2.2.2.2.2.2.2.2.2.2.2.2.2.2.2.2.2.2.2.2.2.2.2.2.2.2.2.2.2.2.2.2.2.2.2.2.2.2.2.2.2.2.2.2.2.2.2.1 x.2.2.2.2.2.2.2.2.2.2.2.2.2.2.2.2.2.2.2.2.2.2.2.2.2.2.2.2.2.2.2.2.2.2.2.2.2.2.2.2.2.2.2.2.2.2.2.2.2.2.2.2.2.2.2.2.2.1 x.2.2.2.2.2.2.2.2.2.2.2.2.2.2.2.2.2.2.2.2.2.2.2.2.2.2.2.2.2.2.2.2.2.2.2.2.2.2.2.2.2.2.2.2.2.2.2.2.2.2.2.2.2.2.2.2.2.2.1 x.2.2.2.2.2.2.2.2.2.2.2.2.2.2.2.2.2.2.2.2.2.2.2.2.2.2.2.2.2.2.2.2.2.2.2.2.2.2.2.2.2.2.2.2.2.2.2.2.2.2.2.2.2.2.2.2.2.2.2.1 x.2.2.2.2.2.2.2.2.2.2.2.2.2.2.2.2.2.2.2.2.2.2.2.2.2.2.2.2.2.2.2.2.2.2.2.2.2.2.2.2.2.2.2.2.2.2.2.2.2.2.2.2.2.2.2.2.2.2.2.2.1 x.2.2.2.2.2.2.2.2.2.2.2.2.2.2.2.2.2.2.2.2.2.2.2.2.2.2.2.2.2.2.2.2.2.2.2.2.2.2.2.2.2.2.2.2.2.2.2.2.2.2.2.2.2.2.2.2.2.2.2.2.2.1 x.2.2.2.2.2.2.2.2.2.2.2.2.2.2.2.2.2.2.2.2.2.2.2.2.2.2.2.2.2.2.2.2.2.2.2.2.2.2.2.2.2.2.2.2.2.2.2.2.2.2.2.2.2.2.2.2.2.2.2.2.2.2.1 x.2.2.2.2.2.2.2.2.2.2.2.2.2.2.2.2.2.2.2.2.2.2.2.2.2.2.2.2.2.2.2.2.2.2.2.2.2.2.2.2.2.2.2.2.2.2.2.2.2.2.2.2.2.2.2.2.2.2.2.2.2.2.2⟩
def T269 (k:Nat):TB:=(T268 k).ad ((T268 k).k k 115 Tryz.f115 (C298 k) noH)
def C299 (k:Nat):Ctr:=⟨⟨[(0,q30),(1,q10)],[(0,q266),(1,q259),(2,q259),(3,q259),(4,q268)],[],[],5,q309⟩,[0,1,2,3,4],[⟨.one (q310),[(0,.box [.part (.st .yj),.cell q253,.part (.st .yK),.cell q253,.cell q61,.cell q311,.part (.st .yE)]),(5,q259)],[1,2,3,4],6,[.o (.st .zi),.o (.st .yj),.o (.sl (.st .Value)),.o (.st .yK),.o (.sl (.st .Value)),.o (.sl (.st .Effect)),.o (.st .yE),.o (.sl (.st .Value))]⟩],fun x=>Xo k x.1 x.2.1 x.2.2.1 x.2.2.2.1 x.2.2.2.2.1 x.2.2.2.2.2.1 x.2.2.2.2.2.2.1 x.2.2.2.2.2.2.2⟩
def h299:Hints:=⟨fun i=>match i with|9=>some ⟨[⟨[(8,q10)],[(0,.box [.part (.st .yj),.cell q31,.part (.st .yK),.cell q51,.cell q90,.cell (.leaf (.row 10001)),.part (.st .yE)]),(1,q259),(2,q259),(10000,q259),(10001,q268)],[],[5000,5001],10002,q309⟩],false⟩|15=>some ⟨[⟨[],[(0,.box [.part (.st .yj),.cell q253,.part (.st .yK),.cell q253,.cell q29,.cell q311,.part (.st .yE)]),(1,q312),(2,q312),(5501,.fz (.val (.sl (.st .Effect))))],[],[],16000,[.o (.st .yj),.o (.sl (.st .Value)),.o (.st .yK),.o (.sl (.st .Value)),.o (.sl (.st .Effect)),.o (.st .yE),.o (.sl (.st .Value)),.o (.sl (.st .Value)),.o (.sl (.st .Effect))]⟩],false⟩|_=>none,fun i=>match i with|4=>some ⟨[⟨[(7,q13)],[(0,.box [.part (.st .yj),.cell q31,.part (.st .yK),.cell q51,.cell q27,.cell (.leaf (.row 5001)),.part (.st .yE)]),(1,q259),(2,q259),(5000,q259),(5001,q268)],[],[3,4],5002,[.n,.o (.st .yj),.o (.st .yK),.o (.st .yE),.o (.sl (.st .Value)),.o (.sl (.st .Value)),.o (.sl (.st .Value)),.o (.sl (.st .Effect))]⟩],0,[⟨[],[(0,.box [.part (.st .yj),.cell q31,.part (.st .yK),.cell q51,.cell q29,.cell (.leaf (.row 5501)),.part (.st .yE)]),(1,q259),(2,q259),(5500,q259),(5501,q268)],[],[3,4],5502,q281⟩],true⟩|_=>none,fun _=>none,fun _=>false⟩
def T270 (k:Nat):TB:=(T269 k).ad ((T269 k).k k 47 Tryz.f47 (C299 k) h299)
def C300 (k:Nat):Ctr:=⟨⟨[(0,q230),(1,q263),(2,q1),(3,q254),(4,q76),(5,q10)],[],[],[],0,[.o (.st .Code),.o (.st .Machine),.o .str,.o (.sl (.st .Value)),.o (.st .Value),.o .int]⟩,[],[⟨.tu [q310,q10],[],[],0,[.o (.st .zi),.o .int]⟩],fun x=>zeo k x.1 x.2.1 x.2.2.1 x.2.2.2.1 x.2.2.2.2.1 x.2.2.2.2.2⟩
def h300:Hints:=⟨fun i=>match i with|9=>some ⟨[⟨[],[(9,.box [.part (.st .yj),.cell (.leaf (.row 11)),.part (.st .yK),.cell (.leaf (.row 8)),.cell q90,.cell (.leaf (.row 10001)),.part (.st .yE)]),(10000,q259),(10001,q268)],[],[],10002,[.o (.st .yj),.o (.st .yK),.o (.st .yE),.o (.sl (.st .Value)),.o (.sl (.st .Effect))]⟩],false⟩|_=>none,fun i=>match i with  | _=>none,fun _=>none,fun _=>false⟩
def T271 (k:Nat):TB:=(T270 k).ad ((T270 k).k k 12 Tryz.f12 (C300 k) h300)
def C301 (k:Nat):Ctr:=⟨⟨[],[],[],[],0,[]⟩,[],[q7],fun x=>XF k⟩
def T272 (k:Nat):TB:=(T271 k).ad ((T271 k).k k 4 Tryz.f4 (C301 k) noH)
def C302 (k:Nat):Ctr:=⟨q316,[],[q318],fun x=>YC k x.1 x.2⟩
def T273 (k:Nat):TB:=(T272 k).ad ((T272 k).k k 80 Tryz.f80 (C302 k) noH)
def C303 (k:Nat):Ctr:=⟨⟨[(0,q24),(1,q242)],[(0,q21)],[],[],1,q319⟩,[0],[q320],fun x=>Zy k x.1 x.2⟩
def h303:Hints:=⟨fun i=>match i with  | _=>none,fun i=>match i with|1=>some ⟨[⟨[(0,.one (.leaf (.row 2000))),(1,q242)],[(2000,q21)],[],[0],2001,q319⟩],0,[⟨[(0,.one (.leaf (.row 2500))),(1,q242)],[(2500,q21)],[],[0],2501,q319⟩],false⟩|_=>none,fun _=>none,fun _=>false⟩
def T274 (k:Nat):TB:=(T273 k).ad ((T273 k).k k 157 Tryz.f157 (C303 k) h303)
def C304 (k:Nat):Ctr:=⟨⟨[(0,q314),(1,q242)],[],[],[],0,[.o (.sl .u8),.o .u64]⟩,[],[q318],fun x=>X4 k x.1 x.2⟩
def T275 (k:Nat):TB:=(T274 k).ad ((T274 k).k k 77 Tryz.f77 (C304 k) noH)
def C305 (k:Nat):Ctr:=⟨⟨[(0,q30),(1,q10)],[(0,q321)],[],[],1,q22⟩,[0],[q322],fun x=>yI k x.1 x.2⟩
def T276 (k:Nat):TB:=(T275 k).ad ((T275 k).k k 24 Tryz.f24 (C305 k) noH)
def C306 (k:Nat):Ctr:=⟨⟨[(0,q24),(1,q1)],[(0,q21)],[],[],1,[.o .str,.o (.sl .u8)]⟩,[0],[q320],fun x=>ZR k x.1 x.2⟩
def T277 (k:Nat):TB:=(T276 k).ad ((T276 k).k k 82 Tryz.f82 (C306 k) noH)
def C307 (k:Nat):Ctr:=⟨⟨[(0,q314),(1,q1)],[],[],[],0,[.o (.sl .u8),.o .str]⟩,[],[q318],fun x=>YN k x.1 x.2⟩
def T278 (k:Nat):TB:=(T277 k).ad ((T277 k).k k 78 Tryz.f78 (C307 k) noH)
def C308 (k:Nat):Ctr:=⟨⟨[(0,q30),(1,q1)],[(0,q321)],[],[],1,[.o .str,.o (.sl .u8)]⟩,[0],[q322],fun x=>uG k x.1 x.2⟩
def T279 (k:Nat):TB:=(T278 k).ad ((T278 k).k k 25 Tryz.f25 (C308 k) noH)
def C309 (k:Nat):Ctr:=⟨⟨[(0,q24),(1,q10)],[(0,q21)],[],[],1,q22⟩,[0],[q320],fun x=>Ue k x.1 x.2⟩
def T280 (k:Nat):TB:=(T279 k).ad ((T279 k).k k 81 Tryz.f81 (C309 k) noH)
def C310 (k:Nat):Ctr:=⟨⟨[(0,q314),(1,q133)],[],[],[],0,[.o (.sl .u8),.o (.sl .int)]⟩,[],[q318],fun x=>Zv k x.1 x.2⟩
def h310:Hints:=⟨fun i=>match i with  | _=>none,fun i=>match i with|3=>some ⟨[q324],0,[q325],false⟩|_=>none,fun _=>none,fun _=>false⟩
def T281 (k:Nat):TB:=(T280 k).ad ((T280 k).k k 83 Tryz.f83 (C310 k) h310)
def C311 (k:Nat):Ctr:=⟨⟨[(0,q314),(1,q81)],[],[],[],0,[.o (.sl .u8),.o (.sl .str)]⟩,[],[q318],fun x=>Yi k x.1 x.2⟩
def h311:Hints:=⟨fun i=>match i with  | _=>none,fun i=>match i with|3=>some ⟨[q324],0,[q325],false⟩|_=>none,fun _=>none,fun _=>false⟩
def T282 (k:Nat):TB:=(T281 k).ad ((T281 k).k k 84 Tryz.f84 (C311 k) h311)
def C312 (k:Nat):Ctr:=⟨⟨[(0,q314),(1,q76)],[],[],[],0,[.o (.sl .u8),.o (.st .Value)]⟩,[],[q318],fun x=>qZ k x.1 x.2⟩
def T283 (k:Nat):TB:=(T282 k).ad ((T282 k).k k 26 Tryz.f26 (C312 k) noH)
def C313 (k:Nat):Ctr:=⟨⟨[(0,q30),(1,q231)],[(0,q321)],[],[],1,[.o (.st .zk),.o (.sl .u8)]⟩,[0],[q322],fun x=>jS k x.1 x.2⟩
def h313:Hints:=⟨fun i=>match i with|13=>some ⟨[⟨[],[(0,.box [.cell (.leaf (.row 14000))]),(14000,q21)],[],[7000],14001,q317⟩],false⟩|_=>none,fun i=>match i with|6=>some ⟨[⟨[(35,q13)],[(0,q244),(7000,q21)],[],[11],7001,q323⟩],0,[⟨[],[(0,q246),(7500,q21)],[],[11],7501,q317⟩],false⟩|_=>none,fun _=>none,fun _=>false⟩
def T284 (k:Nat):TB:=(T283 k).ad ((T283 k).k k 27 Tryz.f27 (C313 k) h313)
def C314 (k:Nat):Ctr:=⟨q237,[],[q318],fun x=>Yj k x⟩
def h314:Hints:=⟨fun i=>match i with  | _=>none,fun i=>match i with|6=>some ⟨[⟨[(23,q13)],[(2,q244),(7000,q21)],[],[4],7001,q323⟩],0,[⟨[],[(2,q246),(7500,q21)],[],[4],7501,q317⟩],false⟩|11=>some ⟨[⟨[(39,q13)],[(2,.box [.cell (.leaf (.row 12000))]),(12000,q21)],[],[7005],12001,q323⟩],2,[⟨[],[(2,.box [.cell (.leaf (.row 12500))]),(12500,q21)],[],[7005],12501,q317⟩],false⟩|19=>some ⟨[⟨[(70,q13)],[(2,.box [.cell (.leaf (.row 20000))]),(20000,q21)],[],[12502],20001,q323⟩],4,[⟨[],[(2,.box [.cell (.leaf (.row 20500))]),(20500,q21)],[],[12502],20501,q317⟩],false⟩|_=>none,fun _=>none,fun _=>false⟩
def T285 (k:Nat):TB:=(T284 k).ad ((T284 k).k k 8 Tryz.f8 (C314 k) h314)
def C315 (k:Nat):Ctr:=⟨q326,[],[⟨.tu [q242,q10,q10],[],[],0,[.o .u64,.o .int,.o .int]⟩],fun x=>Vd k x⟩
def h315:Hints:=⟨fun i=>match i with  | _=>none,fun i=>match i with|2=>some ⟨[⟨[(2,q242),(9,q13)],[],[],[],3000,[.o .u64,.n]⟩],0,[q23],true⟩|_=>none,fun _=>none,fun _=>false⟩
def T286 (k:Nat):TB:=(T285 k).ad ((T285 k).k k 66 Tryz.f66 (C315 k) h315)
def C316 (k:Nat):Ctr:=⟨⟨[(0,q30),(1,q10),(2,q10)],[(0,q327)],[],[],1,[.o .int,.o .int,.o (.sl .u8),.o .bool]⟩,[0],[⟨.tu [],[(0,q327)],[],1,[.o (.sl .u8),.o .bool]⟩],fun x=>wo k x.1 x.2.1 x.2.2.1 x.2.2.2⟩
def T287 (k:Nat):TB:=(T286 k).ad ((T286 k).k k 67 Tryz.f67 (C316 k) noH)
def C317 (k:Nat):Ctr:=⟨q328,[0],[⟨q11,[(0,q327)],[],1,[.o .int,.o (.sl .u8),.o .bool]⟩],fun x=>yH k x.1 x.2.1 x.2.2⟩
def T288 (k:Nat):TB:=(T287 k).ad ((T287 k).k k 21 Tryz.f21 (C317 k) noH)
def C318 (k:Nat):Ctr:=⟨q316,[],[q329],fun x=>WG k x.1 x.2⟩
def T289 (k:Nat):TB:=(T288 k).ad ((T288 k).k k 232 Tryz.f232 (C318 k) noH)
def C319 (k:Nat):Ctr:=⟨q316,[],[q330],fun x=>Xu k x.1 x.2⟩
def T290 (k:Nat):TB:=(T289 k).ad ((T289 k).k k 145 Tryz.f145 (C319 k) noH)
def C320 (k:Nat):Ctr:=⟨q331,[0],[⟨q47,[(0,q327)],[],1,[.o .str,.o (.sl .u8),.o .bool]⟩],fun x=>uF k x.1 x.2⟩
def T291 (k:Nat):TB:=(T290 k).ad ((T290 k).k k 68 Tryz.f68 (C320 k) noH)
def C321 (k:Nat):Ctr:=⟨q326,[],[q329],fun x=>UO k x⟩
def T292 (k:Nat):TB:=(T291 k).ad ((T291 k).k k 233 Tryz.f233 (C321 k) noH)
def C322 (k:Nat):Ctr:=⟨q326,[],[q329],fun x=>UQ k x⟩
def T293 (k:Nat):TB:=(T292 k).ad ((T292 k).k k 234 Tryz.f234 (C322 k) noH)
def C323 (k:Nat):Ctr:=⟨⟨[(0,q314),(1,q10),(2,.one (.clo false 233 []))],[],[],[],0,q315⟩,[],[q332],fun x=>Jc k x.1 x.2⟩
def h323:Hints:=⟨fun i=>match i with  | _=>none,fun i=>match i with|3=>some ⟨[⟨[(6,q20),(7,q10),(8,q10),(10,q13)],[(4000,q57)],[],[],4001,[.o .int,.o .int,.n,.o (.sl .int)]⟩],0,[⟨[(6,q143),(7,q10),(8,q10)],[(4500,q57)],[],[],4501,[.o .int,.o .int,.o (.sl .int)]⟩],false⟩|_=>none,fun _=>none,fun _=>false⟩
def T294 (k:Nat):TB:=(T293 k).ad ((T293 k).k k 307 Tryz.f307 (C323 k) h323)
def C324 (k:Nat):Ctr:=⟨q316,[],[q332],fun x=>XE k x.1 x.2⟩
def T295 (k:Nat):TB:=(T294 k).ad ((T294 k).k k 235 Tryz.f235 (C324 k) noH)
def C325 (k:Nat):Ctr:=⟨q326,[],[q330],fun x=>YO k x⟩
def T296 (k:Nat):TB:=(T295 k).ad ((T295 k).k k 309 Tryz.f309 (C325 k) noH)
def C326 (k:Nat):Ctr:=⟨⟨[(0,q314),(1,q10),(2,.one (.clo false 309 []))],[],[],[],0,q315⟩,[],[q333],fun x=>Vp k x.1 x.2⟩
def h326:Hints:=⟨fun i=>match i with  | _=>none,fun i=>match i with|3=>some ⟨[⟨[(6,q20),(7,q10),(8,q10),(10,q13)],[(4000,q58)],[],[],4001,[.o .int,.o .int,.n,.o (.sl .str)]⟩],0,[⟨[(6,q143),(7,q10),(8,q10)],[(4500,q58)],[],[],4501,[.o .int,.o .int,.o (.sl .str)]⟩],false⟩|_=>none,fun _=>none,fun _=>false⟩
def T297 (k:Nat):TB:=(T296 k).ad ((T296 k).k k 308 Tryz.f308 (C326 k) h326)
def C327 (k:Nat):Ctr:=⟨q316,[],[q333],fun x=>YB k x.1 x.2⟩
def T298 (k:Nat):TB:=(T297 k).ad ((T297 k).k k 236 Tryz.f236 (C327 k) noH)
def C328 (k:Nat):Ctr:=⟨q326,[],[⟨.tu [q76,q10,q10],[],[],0,[.o (.st .Value),.o .int,.o .int]⟩],fun x=>J8 k x⟩
def h328:Hints:=⟨fun i=>match i with|18=>some ⟨[⟨[(3,q10),(4,q10)],[(0,.box [.cell (.leaf .nat),.cell q9,.cell q0,.cell (.leaf (.row 19000)),.cell (.leaf (.row 19001))]),(19000,q57),(19001,q58)],[],[],19002,[.o .int,.o .int,.n,.o .int,.o .str,.o (.sl .int),.o (.sl .str)]⟩],false⟩|_=>none,fun i=>match i with  | _=>none,fun _=>none,fun _=>false⟩
def T299 (k:Nat):TB:=(T298 k).ad ((T298 k).k k 146 Tryz.f146 (C328 k) h328)
def C329 (k:Nat):Ctr:=⟨q331,[0],[⟨q77,[(0,q327)],[],1,[.o (.st .Value),.o (.sl .u8),.o .bool]⟩],fun x=>qx k x.1 x.2⟩
def T300 (k:Nat):TB:=(T299 k).ad ((T299 k).k k 69 Tryz.f69 (C329 k) noH)
def C330 (k:Nat):Ctr:=⟨q328,[0],[⟨q283,[(1,q57),(0,q327)],[],2,[.o (.sl .int),.o (.sl .u8),.o .bool]⟩],fun x=>jc k x.1 x.2.1 x.2.2⟩
def T301 (k:Nat):TB:=(T300 k).ad ((T300 k).k k 147 Tryz.f147 (C330 k) noH)
def C331 (k:Nat):Ctr:=⟨q331,[0],[⟨.one (.ag [.cell q0,.cell q31,.cell q9,.cell q51,.cell q86]),[(1,q57),(2,q57),(3,q202),(0,q327)],[],4,[.o .str,.o .int,.o (.sl .int),.o (.sl .int),.o (.sl (.st .Instr)),.o (.sl .u8),.o .bool]⟩],fun x=>jR k x.1 x.2⟩
def h331:Hints:=⟨fun i=>match i with|8=>some ⟨[⟨[],[(0,q327),(4004,.box [.part (.st .Instr)])],[],[],9000,[.o (.sl .u8),.o .bool,.o (.st .Instr)]⟩],false⟩|_=>none,fun i=>match i with|3=>some ⟨[⟨[(4,q10)],[(0,q327),(8,.box [.cell q0,.cell q67,.cell q9,.cell q64,.cell q19]),(4000,q202)],[],[],4001,[.o .int,.o (.sl .u8),.o .bool,.o .str,.o .int,.o (.sl (.st .Instr))]⟩],0,[⟨[],[(0,q327),(8,.box [.cell q0,.cell q67,.cell q9,.cell q64,.cell q101]),(4500,q202)],[],[],4501,[.o (.sl .u8),.o .bool,.o .str,.o .int,.o (.sl (.st .Instr))]⟩],false⟩|_=>none,fun _=>none,fun _=>false⟩
def T302 (k:Nat):TB:=(T301 k).ad ((T301 k).k k 70 Tryz.f70 (C331 k) h331)
def C332 (k:Nat):Ctr:=⟨q331,[0],[⟨q121,[(1,q122),(2,q248),(0,q327)],[],3,[.o .str,.o (.sl (.st .Field)),.o (.sl (.st .zk)),.o (.sl .u8),.o .bool]⟩],fun x=>ZB k x.1 x.2⟩
def h332:Hints:=⟨fun i=>match i with  | _=>none,fun i=>match i with|3=>some ⟨[⟨[(4,q10)],[(0,q327),(3,.box [.cell q0,.cell q19,.cell q124]),(4000,q122)],[],[],4001,[.o .int,.o (.sl .u8),.o .bool,.o .str,.o (.sl (.st .Field))]⟩],0,[⟨[],[(0,q327),(3,.box [.cell q0,.cell q101,.cell q124]),(4500,q122)],[],[],4501,[.o (.sl .u8),.o .bool,.o .str,.o (.sl (.st .Field))]⟩],false⟩|7=>some ⟨[⟨[(5,q10)],[(0,q327),(3,.box [.cell q0,.cell q101,.cell q102]),(8000,q248)],[],[],8001,[.o .int,.o (.sl .u8),.o .bool,.o .str,.o (.sl (.st .zk))]⟩],2,[⟨[],[(0,q327),(3,.box [.cell q0,.cell q101,.cell (.leaf (.row 8500))]),(8500,q248)],[],[],8501,[.o (.sl .u8),.o .bool,.o .str,.o (.sl (.st .zk))]⟩],false⟩|_=>none,fun _=>none,fun _=>false⟩
def T303 (k:Nat):TB:=(T302 k).ad ((T302 k).k k 22 Tryz.f22 (C332 k) h332)
def C333 (k:Nat):Ctr:=⟨q326,[],[⟨.tu [q230,q10,q10],[],[],0,q265⟩],fun x=>XH k x⟩
def h333:Hints:=⟨fun i=>match i with  | _=>none,fun i=>match i with|3=>some ⟨[⟨[(6,q10)],[(0,.box [.cell q19]),(4000,q245),(1,q327)],[],[],4001,[.o .int,.o (.sl (.st .zq)),.o (.sl .u8),.o .bool]⟩],0,[⟨[],[(0,.box [.cell q101]),(4500,q245),(1,q327)],[],[],4501,[.o (.sl (.st .zq)),.o (.sl .u8),.o .bool]⟩],false⟩|_=>none,fun _=>none,fun _=>false⟩
def T304 (k:Nat):TB:=(T303 k).ad ((T303 k).k k 7 Tryz.f7 (C333 k) h333)
def C334 (k:Nat):Ctr:=⟨q141,[],[q7],fun x=>wX k x.1 x.2⟩
def h334:Hints:=⟨fun i=>match i with  | _=>none,fun i=>match i with|4=>some ⟨[q334],0,[q140],true⟩|_=>none,fun _=>none,fun _=>false⟩
def T305 (k:Nat):TB:=(T304 k).ad ((T304 k).k k 85 Tryz.f85 (C334 k) h334)
def C335 (k:Nat):Ctr:=⟨q150,[],[q7],fun x=>uY k x.1 x.2⟩
def h335:Hints:=⟨fun i=>match i with  | _=>none,fun i=>match i with|4=>some ⟨[q334],0,[q140],true⟩|_=>none,fun _=>none,fun _=>false⟩
def T306 (k:Nat):TB:=(T305 k).ad ((T305 k).k k 116 Tryz.f116 (C335 k) h335)
def C336 (k:Nat):Ctr:=⟨q151,[],[q7],fun x=>yR k x.1 x.2⟩
def T307 (k:Nat):TB:=(T306 k).ad ((T306 k).k k 48 Tryz.f48 (C336 k) noH)
def C337 (k:Nat):Ctr:=⟨⟨[(0,q137),(1,q137)],[],[],[],0,[.o (.sl (.st .Field)),.o (.sl (.st .Field))]⟩,[],[q7],fun x=>uX k x.1 x.2⟩
def h337:Hints:=⟨fun i=>match i with  | _=>none,fun i=>match i with|4=>some ⟨[q334],0,[q140],true⟩|_=>none,fun _=>none,fun _=>false⟩
def T308 (k:Nat):TB:=(T307 k).ad ((T307 k).k k 28 Tryz.f28 (C337 k) h337)
def C338 (k:Nat):Ctr:=⟨⟨[(0,q231),(1,q231)],[],[],[],0,[.o (.st .zk),.o (.st .zk)]⟩,[],[q7],fun x=>uZ k x.1 x.2⟩
def h338:Hints:=⟨fun i=>match i with  | _=>none,fun i=>match i with|4=>some ⟨[q334],0,[q140],true⟩|_=>none,fun _=>none,fun _=>false⟩
def T309 (k:Nat):TB:=(T308 k).ad ((T308 k).k k 29 Tryz.f29 (C338 k) h338)
def C339 (k:Nat):Ctr:=⟨⟨[(0,q230),(1,q230)],[],[],[],0,[.o (.st .Code),.o (.st .Code)]⟩,[],[q7],fun x=>jG k x.1 x.2⟩
def h339:Hints:=⟨fun i=>match i with  | _=>none,fun i=>match i with|4=>some ⟨[q334],0,[q140],true⟩|10=>some ⟨[⟨[(8,q13)],[],[],[],11000,[.n]⟩],2,[⟨[],[],[],[],11500,[]⟩],true⟩|_=>none,fun _=>none,fun _=>false⟩
def T310 (k:Nat):TB:=(T309 k).ad ((T309 k).k k 9 Tryz.f9 (C339 k) h339)
def C340 (k:Nat):Ctr:=⟨q185,[],[q105],fun x=>VR k x.1 x.2⟩
def T311 (k:Nat):TB:=(T310 k).ad ((T310 k).k k 87 Tryz.f87 (C340 k) noH)
def C341 (k:Nat):Ctr:=⟨⟨[(0,q158),(1,.one (.clo false 87 [(.ptr 0 0)]))],[(0,q184)],[],[],1,q186⟩,[],[q160],fun x=>xB k x.1 x.2⟩
def h341:Hints:=⟨fun i=>match i with  | _=>none,fun i=>match i with|2=>some ⟨[q135],0,[q23],true⟩|_=>none,fun _=>none,fun _=>false⟩
def T312 (k:Nat):TB:=(T311 k).ad ((T311 k).k k 86 Tryz.f86 (C341 k) h341)
def C342 (k:Nat):Ctr:=⟨q187,[],[q105],fun x=>VU k x.1 x.2⟩
def T313 (k:Nat):TB:=(T312 k).ad ((T312 k).k k 89 Tryz.f89 (C342 k) noH)
def C343 (k:Nat):Ctr:=⟨⟨[(0,q161),(1,.one (.clo false 89 [(.ptr 0 0)]))],[(0,q184)],[],[],1,[.o (.sl (.st .Method)),.o .str]⟩,[],[q160],fun x=>wC k x.1 x.2⟩
def h343:Hints:=⟨fun i=>match i with  | _=>none,fun i=>match i with|2=>some ⟨[q135],0,[q23],true⟩|_=>none,fun _=>none,fun _=>false⟩
def T314 (k:Nat):TB:=(T313 k).ad ((T313 k).k k 88 Tryz.f88 (C343 k) h343)
def C344 (k:Nat):Ctr:=⟨q188,[],[⟨.tu [q196,q4],[],[],0,[.o (.st .Place),.o .bool]⟩],fun x=>Vy k x.1 x.2.1 x.2.2⟩
def T315 (k:Nat):TB:=(T314 k).ad ((T314 k).k k 30 Tryz.f30 (C344 k) noH)
def C345 (k:Nat):Ctr:=⟨⟨[(0,.ag [.part (.st .Input)]),(1,q30)],[(0,q335)],[],[],1,[.o (.st .Input),.o (.sl .int)]⟩,[],[q105],fun x=>kY k x.1 x.2⟩
def T316 (k:Nat):TB:=(T315 k).ad ((T315 k).k k 93 Tryz.f93 (C345 k) noH)
def C346 (k:Nat):Ctr:=⟨q337,[],[q160],fun x=>jy k x.1 x.2⟩
def h346:Hints:=⟨fun i=>match i with  | _=>none,fun i=>match i with|2=>some ⟨[q135],0,[q23],true⟩|_=>none,fun _=>none,fun _=>false⟩
def T317 (k:Nat):TB:=(T316 k).ad ((T316 k).k k 160 Tryz.f160 (C346 k) h346)
def C347 (k:Nat):Ctr:=⟨q337,[],[q105],fun x=>wK k x.1 x.2⟩
def T318 (k:Nat):TB:=(T317 k).ad ((T317 k).k k 92 Tryz.f92 (C347 k) noH)
def C348 (k:Nat):Ctr:=⟨⟨[(0,q156),(1,q336)],[],[],[],0,[.o (.st .zF),.o (.sl (.st .Input))]⟩,[],[q7],fun x=>Yd k x.1 x.2⟩
def h348:Hints:=⟨fun i=>match i with  | _=>none,fun i=>match i with|5=>some ⟨[⟨[(23,q13)],[(1,.box [.cell (.leaf (.row 6000))]),(6000,q57)],[],[],6001,q97⟩],0,[⟨[],[(1,.box [.cell (.leaf (.row 6500))]),(6500,q57)],[],[],6501,q98⟩],false⟩|_=>none,fun _=>none,fun _=>false⟩
def T319 (k:Nat):TB:=(T318 k).ad ((T318 k).k k 32 Tryz.f32 (C348 k) h348)
def C349 (k:Nat):Ctr:=⟨q258,[],[q260],fun x=>yM k x⟩
def h349:Hints:=⟨fun i=>match i with  | _=>none,fun i=>match i with|3=>some ⟨[q261],0,[q262],false⟩|_=>none,fun _=>none,fun _=>false⟩
def T320 (k:Nat):TB:=(T319 k).ad ((T319 k).k k 34 Tryz.f34 (C349 k) h349)
def C350 (k:Nat):Ctr:=⟨⟨[(0,q30)],[(0,q338),(1,q267),(2,q267),(3,q269),(4,q340)],[],[],5,q341⟩,[0],[⟨.tu [],[(0,.box [.part (.st .zL),.cell q61,.cell q51,.cell q124,.part (.st .zH),.cell q67,.cell q3]),(5,q259)],[],6,q342⟩],fun x=>Wq k x.1 x.2.1 x.2.2.1 x.2.2.2.1 x.2.2.2.2.1 x.2.2.2.2.2.1 x.2.2.2.2.2.2⟩
def T321 (k:Nat):TB:=(T320 k).ad ((T320 k).k k 35 Tryz.f35 (C350 k) noH)
def C351 (k:Nat):Ctr:=⟨⟨[(0,q30),(1,q78),(2,.one (.clo false 246 [(.ptr 5 0)]))],[(0,q343),(1,q267),(2,q267),(3,q269),(4,q340),(5,q145)],[],[],6,q344⟩,[],[⟨q345,[(6,q65),(7,q144),(8,.box [.cell (.clo false 246 [(.ptr 5 0)])])],[],9,q153⟩],fun x=>WV k x.1 x.2.1 x.2.2.1 x.2.2.2.1 x.2.2.2.2.1 x.2.2.2.2.2.1 x.2.2.2.2.2.2.1 x.2.2.2.2.2.2.2.1 x.2.2.2.2.2.2.2.2⟩
def T322 (k:Nat):TB:=(T321 k).ad ((T321 k).k k 245 Tryz.f245 (C351 k) noH)
def C352 (k:Nat):Ctr:=⟨⟨[(0,q30),(1,q78)],[(0,q343),(1,q267),(2,q267),(3,q269),(4,q340)],[],[],5,q346⟩,[],[q347],fun x=>YI k x.1 x.2.1 x.2.2.1 x.2.2.2.1 x.2.2.2.2.1 x.2.2.2.2.2.1 x.2.2.2.2.2.2.1 x.2.2.2.2.2.2.2⟩
def h352:Hints:=⟨fun i=>match i with|4=>some ⟨[⟨[],[(7,.box [.cell (.leaf .nat)])],[],[],5000,[.n]⟩],false⟩|_=>none,fun i=>match i with  | _=>none,fun _=>none,fun _=>false⟩
def T323 (k:Nat):TB:=(T322 k).ad ((T322 k).k k 248 Tryz.f248 (C352 k) h352)
def C353 (k:Nat):Ctr:=⟨⟨[(0,q30),(1,q78),(2,.one (.clo false 249 [(.ptr 5 0)]))],[(0,q343),(1,q267),(2,q267),(3,q269),(4,q340),(5,q145)],[],[],6,q344⟩,[],[⟨q345,[(6,q65),(7,q144),(8,.box [.cell (.clo false 249 [(.ptr 5 0)])])],[],9,q153⟩],fun x=>Xv k x.1 x.2.1 x.2.2.1 x.2.2.2.1 x.2.2.2.2.1 x.2.2.2.2.2.1 x.2.2.2.2.2.2.1 x.2.2.2.2.2.2.2.1 x.2.2.2.2.2.2.2.2⟩
def T324 (k:Nat):TB:=(T323 k).ad ((T323 k).k k 245 Tryz.f245 (C353 k) noH)
def C354 (k:Nat):Ctr:=⟨⟨[(0,q30),(1,q78),(2,.one (.clo false 251 [(.ptr 5 0)]))],[(0,q343),(1,q267),(2,q267),(3,q269),(4,q340),(5,q145)],[],[],6,q344⟩,[],[⟨q345,[(6,q65),(7,q144),(8,.box [.cell (.clo false 251 [(.ptr 5 0)])])],[],9,q153⟩],fun x=>Xw k x.1 x.2.1 x.2.2.1 x.2.2.2.1 x.2.2.2.2.1 x.2.2.2.2.2.1 x.2.2.2.2.2.2.1 x.2.2.2.2.2.2.2.1 x.2.2.2.2.2.2.2.2⟩
def T325 (k:Nat):TB:=(T324 k).ad ((T324 k).k k 245 Tryz.f245 (C354 k) noH)
def C355 (k:Nat):Ctr:=⟨q349,[],[⟨.one (.one (.clo false 242 [(.ptr 5 0)])),[(5,q144)],[],6,q153⟩,⟨.one (.one (.clo false 243 [(.ptr 5 0)])),[(5,q65)],[],6,[]⟩,⟨.one (.one (.clo false 244 [(.ptr 5 0),(.ptr 6 0)])),[(5,q65),(6,q175)],[],7,[.o .int]⟩,⟨q350,[(5,q65),(6,q144),(7,q351),(8,q144)],[],9,q352⟩,q347,⟨q350,[(5,q65),(6,q144),(7,q353),(8,q144)],[],9,q352⟩,⟨q350,[(5,q65),(6,q144),(7,q354),(8,q144)],[],9,q352⟩],fun x=>zD k x.1 x.2.1 x.2.2.1 x.2.2.2.1 x.2.2.2.2.1 x.2.2.2.2.2.1 x.2.2.2.2.2.2.1 x.2.2.2.2.2.2.2⟩
def T326 (k:Nat):TB:=(T325 k).ad ((T325 k).k k 161 Tryz.f161 (C355 k) noH)
def C356 (k:Nat):Ctr:=⟨⟨[(0,q30)],[(0,q145)],[],[],1,q153⟩,[],[⟨q77,[],[],1,q131⟩],fun x=>yg k x⟩
def T327 (k:Nat):TB:=(T326 k).ad ((T326 k).k k 242 Tryz.f242 (C356 k) noH)
def C357 (k:Nat):Ctr:=⟨⟨[(0,q30)],[(0,q50),(1,q356),(2,q267),(3,q267),(4,q269),(5,q340)],[],[],6,q341⟩,[],[⟨q77,[],[],6,q131⟩],fun x=>yh k x.1 x.2.1 x.2.2.1 x.2.2.2.1 x.2.2.2.2.1 x.2.2.2.2.2.1 x.2.2.2.2.2.2⟩
def T328 (k:Nat):TB:=(T327 k).ad ((T327 k).k k 243 Tryz.f243 (C357 k) noH)
def C358 (k:Nat):Ctr:=⟨q349,[],[q295,q297],fun x=>uH k x.1 x.2.1 x.2.2.1 x.2.2.2.1 x.2.2.2.2.1 x.2.2.2.2.2.1 x.2.2.2.2.2.2.1 x.2.2.2.2.2.2.2⟩
def T329 (k:Nat):TB:=(T328 k).ad ((T328 k).k k 98 Tryz.f98 (C358 k) noH)
def C359 (k:Nat):Ctr:=⟨⟨[(0,q30),(1,q357)],[(0,q50),(1,q356),(2,q267),(3,q267),(4,q269),(5,q340),(6,q176)],[],[],7,[.o (.st .zL),.o (.st .zH),.o .bool,.o (.sl (.st .Value)),.o (.sl (.st .Value)),.o (.sl (.st .Effect)),.o (.sl (.st .zi)),.o .int]⟩,[],[⟨q77,[],[],7,q131⟩],fun x=>zT k x.1 x.2.1 x.2.2.1 x.2.2.2.1 x.2.2.2.2.1 x.2.2.2.2.2.1 x.2.2.2.2.2.2.1 x.2.2.2.2.2.2.2⟩
def T330 (k:Nat):TB:=(T329 k).ad ((T329 k).k k 244 Tryz.f244 (C359 k) noH)
def C360 (k:Nat):Ctr:=⟨q358,[],[q359],fun x=>qN k x.1 x.2⟩
def T331 (k:Nat):TB:=(T330 k).ad ((T330 k).k k 246 Tryz.f246 (C360 k) noH)
def C361 (k:Nat):Ctr:=⟨⟨[(0,q30),(1,q10)],[(0,q338),(1,q267),(2,q267),(3,q269),(4,q339)],[],[],5,q348⟩,[0,4],[⟨.tu [],[(0,.box [.part (.st .zL),.cell q31,.cell q51,.cell q86,.part (.st .zH),.cell q61,.cell q360]),(5,q339)],[4],6,[.o (.st .zL),.o (.st .zH),.o (.sl (.st .zi))]⟩],fun x=>uI k x.1 x.2.1 x.2.2.1 x.2.2.2.1 x.2.2.2.2.1 x.2.2.2.2.2.1 x.2.2.2.2.2.2.1 x.2.2.2.2.2.2.2⟩
def T332 (k:Nat):TB:=(T331 k).ad ((T331 k).k k 103 Tryz.f103 (C361 k) noH)
def C362 (k:Nat):Ctr:=⟨⟨[(0,q30),(1,q76),(2,q10)],[(0,q338),(1,q267),(2,q267),(3,q269),(4,q339)],[],[],5,[.o (.st .Value),.o .int,.o (.st .zL),.o (.st .zH),.o .bool,.o (.sl (.st .Value)),.o (.sl (.st .Value)),.o (.sl (.st .Effect)),.o (.sl (.st .zi))]⟩,[0,4],[⟨q77,[(0,.box [.part (.st .zL),.cell q31,.cell q51,.cell q86,.part (.st .zH),.cell q61,.cell q3]),(5,q339)],[4],6,q361⟩],fun x=>vM k x.1 x.2.1 x.2.2.1 x.2.2.2.1 x.2.2.2.2.1 x.2.2.2.2.2.1 x.2.2.2.2.2.2.1 x.2.2.2.2.2.2.2.1 x.2.2.2.2.2.2.2.2⟩
def T333 (k:Nat):TB:=(T332 k).ad ((T332 k).k k 312 Tryz.f312 (C362 k) noH)
def C363 (k:Nat):Ctr:=⟨q358,[],[q359],fun x=>qO k x.1 x.2⟩
def T334 (k:Nat):TB:=(T333 k).ad ((T333 k).k k 249 Tryz.f249 (C363 k) noH)
def C364 (k:Nat):Ctr:=⟨q358,[],[q359],fun x=>qP k x.1 x.2⟩
def T335 (k:Nat):TB:=(T334 k).ad ((T334 k).k k 251 Tryz.f251 (C364 k) noH)
def C365 (k:Nat) (r:zx):Ctr:=⟨⟨[(0,q30),(1,q133)],[(0,q338),(1,q267),(2,q267),(3,q269),(4,q339)],[],[],5,[.o (.sl .int),.o (.st .zL),.o (.st .zH),.o .bool,.o (.sl (.st .Value)),.o (.sl (.st .Value)),.o (.sl (.st .Effect)),.o (.sl (.st .zi))]⟩,[0,4],[⟨.one (.one q61),[(5,q259),(0,.box [.part (.st .zL),.cell q31,.cell q51,.cell q86,.part (.st .zH),.cell q64,.cell q3]),(6,q339)],[4],7,q362⟩],fun x=>r.xY x.1 x.2.1 x.2.2.1 x.2.2.2.1 x.2.2.2.2.1 x.2.2.2.2.2.1 x.2.2.2.2.2.2.1 x.2.2.2.2.2.2.2⟩
def h365:Hints:=⟨fun i=>match i with  | _=>none,fun i=>match i with|3=>some ⟨[⟨[(5,q20),(11,q13)],[(4000,q259),(0,.box [.part (.st .zL),.cell q31,.cell q51,.cell q86,.part (.st .zH),.cell (.leaf (.row 4001)),.cell q3]),(4001,q339)],[],[4],4002,[.n,.o (.sl (.st .Value)),.o (.st .zL),.o (.st .zH),.o .bool,.o (.sl (.st .zi))]⟩],0,[⟨[(5,q143)],[(4500,q259),(0,.box [.part (.st .zL),.cell q31,.cell q51,.cell q86,.part (.st .zH),.cell (.leaf (.row 4501)),.cell q3]),(4501,q339)],[],[4],4502,q362⟩],true⟩|_=>none,fun _=>none,fun _=>false⟩
def C366 (k:Nat) (r:zx):Ctr:=⟨⟨[(0,q30),(1,q357),(2,q363)],[(0,q50),(1,q355),(2,q267),(3,q267),(4,q269),(5,q339),(6,q145),(7,.rd (q351)),(8,q145)],[],[],9,q364⟩,[1,5],[q365],fun x=>r.zV x.1 x.2.1 x.2.2.1 x.2.2.2.1 x.2.2.2.2.1 x.2.2.2.2.2.1 x.2.2.2.2.2.2.1 x.2.2.2.2.2.2.2.1 x.2.2.2.2.2.2.2.2⟩
def C367 (k:Nat) (r:zx):Ctr:=⟨⟨[(0,q30),(1,q357),(2,q363)],[(0,q50),(1,q355),(2,q267),(3,q267),(4,q269),(5,q339),(6,q145),(7,.rd (q353)),(8,q145)],[],[],9,q364⟩,[1,5],[q365],fun x=>r.zM x.1 x.2.1 x.2.2.1 x.2.2.2.1 x.2.2.2.2.1 x.2.2.2.2.2.1 x.2.2.2.2.2.2.1 x.2.2.2.2.2.2.2.1 x.2.2.2.2.2.2.2.2⟩
def C368 (k:Nat) (r:zx):Ctr:=⟨⟨[(0,q30),(1,q357),(2,q363)],[(0,q50),(1,q355),(2,q267),(3,q267),(4,q269),(5,q339),(6,q145),(7,.rd (q354)),(8,q145)],[],[],9,q364⟩,[1,5],[q365],fun x=>r.zN x.1 x.2.1 x.2.2.1 x.2.2.2.1 x.2.2.2.2.1 x.2.2.2.2.2.1 x.2.2.2.2.2.2.1 x.2.2.2.2.2.2.2.1 x.2.2.2.2.2.2.2.2⟩
def C369 (k:Nat) (r:zx):Ctr:=⟨⟨[(0,q30),(1,q357),(2,q363)],[(0,q50),(1,q355),(2,q267),(3,q267),(4,q269),(5,q339),(6,q145),(7,q176)],[],[],8,[.o (.st .zL),.o (.st .zH),.o .bool,.o (.sl (.st .Value)),.o (.sl (.st .Value)),.o (.sl (.st .Effect)),.o (.sl (.st .zi)),.o (.st .Node),.o .int]⟩,[1,5],[⟨q77,[(1,.box [.part (.st .zL),.cell q51,.cell q86,.cell q67,.part (.st .zH),.cell (.leaf (.row 8)),.cell q3]),(8,q339)],[5],9,q361⟩],fun x=>r.yB x.1 x.2.1 x.2.2.1 x.2.2.2.1 x.2.2.2.2.1 x.2.2.2.2.2.1 x.2.2.2.2.2.2.1 x.2.2.2.2.2.2.2.1 x.2.2.2.2.2.2.2.2⟩
def T336 (k:Nat):TB:=(T335 k).scc k zx.zero (zx.step k) [⟨102,C365 k⟩,⟨311,C366 k⟩,⟨311,C367 k⟩,⟨311,C368 k⟩,⟨316,C369 k⟩] (gc (gc (gc (gc (gc (gn) Tryz.f316 noH) Tryz.f311 noH) Tryz.f311 noH) Tryz.f311 noH) Tryz.f102 h365)
def C370 (k:Nat):Ctr:=⟨⟨[(0,q30),(1,q10)],[(0,.rd (q366)),(1,q267),(2,q340)],[],[],3,[.o .int,.o (.st .zL),.o (.sl (.st .Value)),.o (.sl (.st .Effect)),.o (.st .zH),.o .bool,.o (.sl (.st .Value)),.o (.sl (.st .zi))]⟩,[],[q235],fun x=>XO k x.1 x.2.1 x.2.2.1 x.2.2.2.1 x.2.2.2.2.1 x.2.2.2.2.2.1 x.2.2.2.2.2.2.1 x.2.2.2.2.2.2.2⟩
def T337 (k:Nat):TB:=(T336 k).ad ((T336 k).k k 163 Tryz.f163 (C370 k) noH)
def C371 (k:Nat):Ctr:=⟨⟨[(0,q30)],[(0,q366),(1,q267),(2,q340)],[],[],3,[.o (.st .zL),.o (.sl (.st .Value)),.o (.sl (.st .Effect)),.o (.st .zH),.o .bool,.o (.sl (.st .Value)),.o (.sl (.st .zi))]⟩,[0],[⟨.tu [],[(0,.box [.part (.st .zL),.cell q86,.cell q31,.cell q124,.part (.st .zH),.cell q51,.cell q3]),(3,q259)],[],4,q342⟩],fun x=>YX k x.1 x.2.1 x.2.2.1 x.2.2.2.1 x.2.2.2.2.1 x.2.2.2.2.2.1 x.2.2.2.2.2.2⟩
def T338 (k:Nat):TB:=(T337 k).ad ((T337 k).k k 35 Tryz.f35 (C371 k) noH)
def C372 (k:Nat):Ctr:=⟨q367,[0,1,3,4],[q369,q371],fun x=>ZL k x.1 x.2.1 x.2.2.1 x.2.2.2.1 x.2.2.2.2.1 x.2.2.2.2.2.1 x.2.2.2.2.2.2.1 x.2.2.2.2.2.2.2⟩
def h372:Hints:=⟨fun i=>match i with|8=>some ⟨[⟨[],[(8,q312)],[],[],9000,q257⟩],true⟩|_=>none,fun i=>match i with  | _=>none,fun _=>none,fun _=>false⟩
def T339 (k:Nat):TB:=(T338 k).ad ((T338 k).k k 99 Tryz.f99 (C372 k) h372)
def C373 (k:Nat):Ctr:=⟨q367,[0,1,3,4],[q369,q371],fun x=>Zn k x.1 x.2.1 x.2.2.1 x.2.2.2.1 x.2.2.2.2.1 x.2.2.2.2.2.1 x.2.2.2.2.2.2.1 x.2.2.2.2.2.2.2⟩
def T340 (k:Nat):TB:=(T339 k).ad ((T339 k).k k 97 Tryz.f97 (C373 k) noH)
def C374 (k:Nat):Ctr:=⟨⟨[(0,q30),(1,q76)],[(0,q338),(1,q259),(2,q267),(3,q268),(4,q339)],[],[],5,[.o (.st .Value),.o (.st .zL),.o (.st .zH),.o .bool,.o (.sl (.st .Value)),.o (.sl (.st .Value)),.o (.sl (.st .Effect)),.o (.sl (.st .zi))]⟩,[0,1,3,4],[⟨.tu [],[(0,q370),(5,q339)],[1,3,4],6,q372⟩],fun x=>um k x.1 x.2.1 x.2.2.1 x.2.2.2.1 x.2.2.2.2.1 x.2.2.2.2.2.1 x.2.2.2.2.2.2.1 x.2.2.2.2.2.2.2⟩
def T341 (k:Nat):TB:=(T340 k).ad ((T340 k).k k 37 Tryz.f37 (C374 k) noH)
def C375 (k:Nat):Ctr:=⟨⟨[(0,q30),(1,q78),(2,q10)],[(0,q338),(1,q267),(2,q267),(3,q268),(4,q339)],[],[],5,[.o (.st .Node),.o .int,.o (.st .zL),.o (.st .zH),.o .bool,.o (.sl (.st .Value)),.o (.sl (.st .Value)),.o (.sl (.st .Effect)),.o (.sl (.st .zi))]⟩,[0,3,4],[⟨.tu [],[(0,.box [.part (.st .zL),.cell q31,.cell q51,.cell q61,.part (.st .zH),.cell q64,.cell q3]),(5,q268),(6,q339)],[3,4],7,[.o (.st .zL),.o (.st .zH),.o .bool,.o (.sl (.st .Effect)),.o (.sl (.st .zi))]⟩],fun x=>Zm k x.1 x.2.1 x.2.2.1 x.2.2.2.1 x.2.2.2.2.1 x.2.2.2.2.2.1 x.2.2.2.2.2.2.1 x.2.2.2.2.2.2.2.1 x.2.2.2.2.2.2.2.2⟩
def T342 (k:Nat):TB:=(T341 k).ad ((T341 k).k k 104 Tryz.f104 (C375 k) noH)
def C376 (k:Nat):Ctr:=⟨⟨[(0,q30),(1,q10)],[(0,.rd (.box [.part (.st .zL),.cell q253,.cell q31,.cell q311,.part (.st .zH),.cell q51,.cell q360])),(1,q267),(2,q340)],[],[],3,[.o .int,.o (.st .zL),.o (.sl (.st .Value)),.o (.sl (.st .Effect)),.o (.st .zH),.o (.sl (.st .Value)),.o (.sl (.st .zi))]⟩,[],[⟨.tu [],[],[],3,[]⟩],fun x=>WW k x.1 x.2.1 x.2.2.1 x.2.2.2.1 x.2.2.2.2.1 x.2.2.2.2.2.1 x.2.2.2.2.2.2⟩
def T343 (k:Nat):TB:=(T342 k).ad ((T342 k).k k 36 Tryz.f36 (C376 k) noH)
def C377 (k:Nat) (r:zl):Ctr:=⟨⟨[(0,q30),(1,q10)],[(0,q338),(1,q259),(2,q259),(3,q268),(4,q339)],[],[],5,q348⟩,[0,1,2,3,4],[q373,q375],fun x=>r.zo x.1 x.2.1 x.2.2.1 x.2.2.2.1 x.2.2.2.2.1 x.2.2.2.2.2.1 x.2.2.2.2.2.2.1 x.2.2.2.2.2.2.2⟩
def h377:Hints:=⟨fun i=>match i with|5=>some ⟨[⟨[(22,q4)],[],[],[],6000,q6⟩],false⟩|_=>none,fun i=>match i with|28=>some ⟨[⟨[(102,q13)],[(0,.box [.part (.st .zL),.cell (.leaf (.row 29000)),.cell q51,.cell (.leaf (.row 29001)),.part (.st .zH),.cell (.leaf (.row 29002)),.cell q3]),(29000,q259),(2,q259),(29001,q268),(29002,q339)],[],[1,3,4],29003,[.n,.o (.st .zL),.o (.st .zH),.o .bool,.o (.sl (.st .Value)),.o (.sl (.st .Value)),.o (.sl (.st .Effect)),.o (.sl (.st .zi))]⟩,⟨[(102,q13)],[(0,.box [.part (.st .zL),.cell q253,.cell q51,.cell q311,.part (.st .zH),.cell (.leaf (.row 29003)),.cell q360]),(2,q259),(29003,q339)],[],[1,3,4],29004,[.n,.o (.st .zL),.o (.sl (.st .Value)),.o (.sl (.st .Effect)),.o (.st .zH),.o (.sl (.st .Value)),.o (.sl (.st .zi))]⟩],1,[⟨[],[(0,.box [.part (.st .zL),.cell (.leaf (.row 29500)),.cell q51,.cell (.leaf (.row 29501)),.part (.st .zH),.cell (.leaf (.row 29502)),.cell q3]),(29500,q259),(2,q259),(29501,q268),(29502,q339)],[],[1,3,4],29503,q341⟩,⟨[],[(0,.box [.part (.st .zL),.cell q253,.cell q51,.cell q311,.part (.st .zH),.cell (.leaf (.row 29503)),.cell q360]),(2,q259),(29503,q339)],[],[1,3,4],29504,q374⟩],false⟩|_=>none,fun _=>none,fun _=>false⟩
def C378 (k:Nat) (r:zl):Ctr:=⟨q376,[0,1,2,3,4],[q373,q375],fun x=>r.Z9 x.1 x.2.1 x.2.2.1 x.2.2.2.1 x.2.2.2.2.1 x.2.2.2.2.2.1 x.2.2.2.2.2.2.1 x.2.2.2.2.2.2.2⟩
def C379 (k:Nat) (r:zl):Ctr:=⟨q376,[0,1,2,3,4],[q373,q375],fun x=>r.Xk x.1 x.2.1 x.2.2.1 x.2.2.2.1 x.2.2.2.2.1 x.2.2.2.2.2.1 x.2.2.2.2.2.2.1 x.2.2.2.2.2.2.2⟩
def h379:Hints:=⟨fun i=>match i with  | _=>none,fun i=>match i with|1=>some ⟨[⟨[],[(0,.box [.part (.st .zL),.cell (.leaf (.row 2000)),.cell q51,.cell (.leaf (.row 2001)),.part (.st .zH),.cell (.leaf (.row 2002)),.cell q3]),(2000,q259),(2,q259),(2001,q268),(2002,q339)],[],[1,3,4],2003,q341⟩,⟨[],[(0,.box [.part (.st .zL),.cell q253,.cell q51,.cell q311,.part (.st .zH),.cell (.leaf (.row 2003)),.cell q360]),(2,q259),(2003,q339)],[],[1,3,4],2004,q374⟩],0,[⟨[],[(0,.box [.part (.st .zL),.cell (.leaf (.row 2500)),.cell q51,.cell (.leaf (.row 2501)),.part (.st .zH),.cell (.leaf (.row 2502)),.cell q3]),(2500,q259),(2,q259),(2501,q268),(2502,q339)],[],[1,3,4],2503,q341⟩,⟨[],[(0,.box [.part (.st .zL),.cell q253,.cell q51,.cell q311,.part (.st .zH),.cell (.leaf (.row 2503)),.cell q360]),(2,q259),(2503,q339)],[],[1,3,4],2504,q374⟩],true⟩|_=>none,fun _=>none,fun _=>false⟩
def T344 (k:Nat):TB:=(T343 k).scc k zl.zero (zl.step k) [⟨36,C377 k⟩,⟨100,C378 k⟩,⟨101,C379 k⟩] (gc (gc (gc (gn) Tryz.f101 h379) Tryz.f100 noH) Tryz.f36 h377)
def C380 (k:Nat):Ctr:=⟨⟨[(0,q127),(1,q1),(2,q1),(3,q1),(4,q254),(5,q336),(6,q10)],[],[],[],0,[.o (.st .Program),.o .str,.o .str,.o .str,.o (.sl (.st .Value)),.o (.sl (.st .Input)),.o .int]⟩,[],[⟨.tu [q24,q10],[(0,q339)],[],1,[.o .int,.o (.sl (.st .zi))]⟩],fun x=>YH k x.1 x.2.1 x.2.2.1 x.2.2.2.1 x.2.2.2.2.1 x.2.2.2.2.2.1 x.2.2.2.2.2.2⟩
def h380:Hints:=⟨fun i=>match i with|26=>some ⟨[⟨[],[(12507,.box [.part (.st .zL),.cell q253,.cell (.leaf (.row 12504)),.cell q311,.part (.st .zH),.cell (.leaf (.row 27000)),.cell q360]),(27000,q339)],[],[12515,12516,12517],27001,q372⟩,⟨[],[],[],[],27001,[]⟩],false⟩|_=>none,fun i=>match i with|11=>some ⟨[⟨[(23,.one (.leaf (.row 12000))),(61,q13)],[(12000,q57)],[],[],12001,q97⟩],0,[⟨[(23,.one (.leaf (.row 12500)))],[(12500,q57)],[],[],12501,q98⟩],false⟩|_=>none,fun i=>match i with|4=>some 16|_=>none,fun _=>false⟩
def T345 (k:Nat):TB:=(T344 k).ad ((T344 k).k k 10 Tryz.f10 (C380 k) h380)
def C381 (k:Nat):Ctr:=⟨⟨[(0,q254),(1,q254)],[],[],[],0,[.o (.sl (.st .Value)),.o (.sl (.st .Value))]⟩,[],[q7],fun x=>vk k x.1 x.2⟩
def h381:Hints:=⟨fun i=>match i with  | _=>none,fun i=>match i with|4=>some ⟨[q334],0,[q140],true⟩|_=>none,fun _=>none,fun _=>false⟩
def T346 (k:Nat):TB:=(T345 k).ad ((T345 k).k k 49 Tryz.f49 (C381 k) h381)
def C382 (k:Nat):Ctr:=⟨⟨[(0,q310),(1,q310)],[],[],[],0,[.o (.st .zi),.o (.st .zi)]⟩,[],[q7],fun x=>qg k x.1 x.2⟩
def h382:Hints:=⟨fun i=>match i with  | _=>none,fun i=>match i with|4=>some ⟨[q334],0,[q140],true⟩|_=>none,fun _=>none,fun _=>false⟩
def T347 (k:Nat):TB:=(T346 k).ad ((T346 k).k k 13 Tryz.f13 (C382 k) h382)
def C383 (k:Nat):Ctr:=⟨⟨[(0,q1),(1,q1),(2,q1),(3,q1),(4,q254),(5,q336)],[],[],[],0,[.o .str,.o .str,.o .str,.o .str,.o (.sl (.st .Value)),.o (.sl (.st .Input))]⟩,[],[q7],fun x=>qK k x.1 x.2.1 x.2.2.1 x.2.2.2.1 x.2.2.2.2.1 x.2.2.2.2.2⟩
def h383:Hints:=⟨fun i=>match i with  | _=>none,fun i=>match i with|17=>some ⟨[⟨[(26,q13)],[(13,.box [.part (.st .Machine)])],[],[],18000,[.n,.o (.st .Machine)]⟩],0,[⟨[],[],[],[13],18500,[]⟩],true⟩|_=>none,fun _=>none,fun _=>false⟩
def T348 (k:Nat):TB:=(T347 k).ad ((T347 k).k k 3 Tryz.f3 (C383 k) h383)
end Md
end Go.Proofs.YtbijabmjbgplbaaGreatDoor
