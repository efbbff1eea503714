/- part 8 -/
import Derived.Test.YtmjnackchaahbaaGreatVhZ7
set_option linter.unusedSimpArgs false
set_option linter.unusedVariables false
namespace Go.Proofs.YtmjnackchaahbaaGreat
abbrev Mf:List Value:=[.int .i64 0, .int .i64 0, .int .i64 0, .int .i64 0, .int .i64 0, .int .i64 0, .int .i64 0, .int .i64 0, .int .i64 0, .int .i64 0, .int .i64 0, .int .i64 0, .int .i64 0, .int .i64 0, .int .i64 0, .int .i64 0, .int .i64 0, .int .i64 0, .int .i64 0, .int .i64 0, .int .i64 0, .int .i64 0, .int .i64 0, .int .i64 0, .int .i64 0, .int .i64 0, .int .i64 0, .int .i64 0, .int .i64 0, .int .i64 0, .int .i64 0, .int .i64 0, .int .i64 0, .int .i64 0, .int .i64 0, .int .i64 0, .int .i64 0, .int .i64 0, .int .i64 0, .int .i64 0]
abbrev JC:List Value:=[.slice none 0 0, .int .i64 0, .int .i64 0, .int .i64 0, .int .i64 0, .int .i64 0, .int .i64 0, .int .i64 0, .int .i64 0, .int .i64 0, .int .i64 0, .int .i64 0, .int .i64 0, .int .i64 0, .int .i64 0, .int .i64 0, .int .i64 0, .int .i64 0, .int .i64 0, .int .i64 0, .int .i64 0, .int .i64 0, .int .i64 0, .int .i64 0, .int .i64 0, .int .i64 0, .int .i64 0, .int .i64 0, .int .i64 0, .int .i64 0, .int .i64 0, .int .i64 0, .int .i64 0, .int .i64 0, .int .i64 0, .int .i64 0, .int .i64 0, .int .i64 0, .int .i64 0, .int .i64 0, .int .i64 0, .int .i64 0, .int .i64 0]
abbrev Nr:List Value:=[.int .i64 0, .int .i64 0, .int .i64 0, .int .i64 0, .int .i64 0, .int .i64 0, .int .i64 0, .int .i64 0, .int .i64 0]
abbrev Jv:List Value:=[.slice none 0 0, .slice none 0 0, .int .i64 0, .bool false, .slice none 0 0]
abbrev HN:List Value:=[.int .i64 0, .int .i64 0, .int .i64 0, .int .i64 0, .int .i64 0]
abbrev Jy:List Value:=[.slice none 0 0, .slice none 0 0, .slice none 0 0]
abbrev HI:List Value:=[.int .i64 0, .int .i64 0, .string ByteArray.empty, .slice none 0 0]
abbrev HM:List Value:=[.int .i64 0, .int .i64 0, .int .i64 0, .string ByteArray.empty, .slice none 0 0]
abbrev JH:List Value:=[.slice none 0 0, .int .i64 0, .int .i64 0, .int .i64 0, .int .i64 0, .int .i64 0, .int .i64 0, .int .i64 0, .int .i64 0, .int .i64 0]
abbrev Kb:List Value:=[.nilFunc, .nilFunc, .nilFunc, .nilFunc, .nilFunc, .nilFunc, .nilFunc, .nilFunc, .nilFunc, .nilFunc, .nilFunc, .nilFunc, .nilFunc, .nilFunc, .nilFunc, .nilFunc, .nilFunc, .nilFunc, .nilFunc, .nilFunc, .nilFunc, .nilFunc, .nilFunc, .nilFunc]
abbrev CA:List Value:=[.int .i64 0, .int .i64 0, .int .i64 0, .int .i64 0]
abbrev xF:List Value:=[.int .i64 0, .int .i64 0, .string ByteArray.empty, .int .i64 0]
abbrev Ig:List Value:=[.slice none 0 0, .slice none 0 0, .bool false]
abbrev IU:List Value:=[.slice none 0 0, .slice none 0 0, .slice none 0 0, .slice none 0 0]
abbrev IJ:List Value:=[.slice none 0 0, .int .i64 0, .int .i64 0, .int .i64 0, .int .i64 0, .int .i64 0, .int .i64 0, .int .i64 0, .int .i64 0, .int .i64 0, .int .i64 0, .int .i64 0, .int .i64 0, .int .i64 0, .int .i64 0, .int .i64 0, .int .i64 0, .int .i64 0, .int .i64 0, .int .i64 0, .int .i64 0, .int .i64 0, .int .i64 0, .int .i64 0, .int .i64 0, .int .i64 0, .int .i64 0, .int .i64 0, .int .i64 0, .int .i64 0, .int .i64 0, .int .i64 0, .int .i64 0, .int .i64 0, .int .i64 0, .int .i64 0, .int .i64 0, .int .i64 0, .int .i64 0, .int .i64 0, .int .i64 0, .int .i64 0, .int .i64 0, .slice none 0 0, .int .i64 0, .int .i64 0, .int .i64 0, .int .i64 0, .int .i64 0, .int .i64 0, .int .i64 0, .int .i64 0, .int .i64 0, .nilFunc, .slice none 0 0, .slice none 0 0, .int .i64 0, .bool false, .slice none 0 0, .slice none 0 0, .int .i64 0, .int .i64 0, .int .i64 0, .bool false]
abbrev Jk:List Value:=[.slice none 0 0, .int .i64 0, .int .i64 0, .int .i64 0, .slice none 0 0]

instance EQ:Ty Tryz.prog 1 false [.nilFunc]:=Ty.of (bytes:=8) (.nilFunc) Tryz.underlying1 rfl ae rfl oC
instance Fj:Ty Tryz.prog 2 false [.int .i64 0]:=Ty.of (bytes:=8) (.int .i64 0) Tryz.underlying2 rfl ae rfl oC
instance Qu:Ty Tryz.prog 3 false [.int .i64 0]:=Ty.of (bytes:=8) (.int .i64 0) Tryz.underlying3 rfl ae rfl oC
instance Qw:Ty Tryz.prog 4 false [.bool false]:=Ty.of (bytes:=1) (.bool false) Tryz.underlying4 rfl ae rfl oC
instance Qv:Ty Tryz.prog 9 false [.string ByteArray.empty]:=Ty.of (bytes:=16) (.string ByteArray.empty) Tryz.underlying9 rfl ae rfl oC
instance Oz:Ty Tryz.prog 22 false [.slice none 0 0]:=Ty.of (bytes:=24) (.slice none 0 0) Tryz.underlying22 rfl ae rfl oC
instance OK:Ty Tryz.prog 23 false [.slice none 0 0]:=Ty.of (bytes:=24) (.slice none 0 0) Tryz.underlying23 rfl ae rfl oC
instance Pa:Ty Tryz.prog 24 true Mf:=Ty.of (bytes:=320) (.agg (Mf).toArray) Tryz.underlying24 rfl ae rfl oC
instance Qb:Ty Tryz.prog 26 true JC:=Ty.of (bytes:=360) (.agg (JC).toArray) Tryz.underlying26 rfl ae rfl oC
instance OQ:Ty Tryz.prog 30 true Nr:=Ty.of (bytes:=72) (.agg (Nr).toArray) Tryz.underlying30 rfl ae rfl oC
instance Qd:Ty Tryz.prog 32 false [.slice none 0 0]:=Ty.of (bytes:=24) (.slice none 0 0) Tryz.underlying32 rfl ae rfl oC
instance Pm:Ty Tryz.prog 34 true Jv:=Ty.of (bytes:=88) (.agg (Jv).toArray) Tryz.underlying34 rfl ae rfl oC
instance OI:Ty Tryz.prog 43 false [.nilFunc]:=Ty.of (bytes:=8) (.nilFunc) Tryz.underlying43 rfl ae rfl oC
instance PW:Ty Tryz.prog 48 true [.int .i64 0, .int .i64 0]:=Ty.of (bytes:=16) (.agg #[.int .i64 0, .int .i64 0]) Tryz.underlying48 rfl ae rfl oC
instance OP:Ty Tryz.prog 51 false [.nilFunc]:=Ty.of (bytes:=8) (.nilFunc) Tryz.underlying51 rfl ae rfl oC
instance PY:Ty Tryz.prog 57 true HN:=Ty.of (bytes:=40) (.agg (HN).toArray) Tryz.underlying57 rfl ae rfl oC
instance PH:Ty Tryz.prog 61 false [.slice none 0 0]:=Ty.of (bytes:=24) (.slice none 0 0) Tryz.underlying61 rfl ae rfl oC
instance Ot:Ty Tryz.prog 62 false [.slice none 0 0]:=Ty.of (bytes:=24) (.slice none 0 0) Tryz.underlying62 rfl ae rfl oC
instance OC:Ty Tryz.prog 64 true Jy:=Ty.of (bytes:=72) (.agg (Jy).toArray) Tryz.underlying64 rfl ae rfl oC
instance Qo:Ty Tryz.prog 66 false [.int .i64 0]:=Ty.of (bytes:=8) (.int .i64 0) Tryz.underlying66 rfl ae rfl oC
instance OY:Ty Tryz.prog 69 false [.slice none 0 0]:=Ty.of (bytes:=24) (.slice none 0 0) Tryz.underlying69 rfl ae rfl oC
instance Pi:Ty Tryz.prog 71 true HI:=Ty.of (bytes:=56) (.agg (HI).toArray) Tryz.underlying71 rfl ae rfl oC
instance OF:Ty Tryz.prog 73 true HM:=Ty.of (bytes:=64) (.agg (HM).toArray) Tryz.underlying73 rfl ae rfl oC
instance LM:Ty Tryz.prog 132 true JH:=Ty.of (bytes:=96) (.agg (JH).toArray) Tryz.underlying132 rfl ae rfl oC
instance Nm:Ty Tryz.prog 141 false [.pointer none]:=Ty.of (bytes:=8) (.pointer none) Tryz.underlying141 rfl ae rfl oC
instance Od:Ty Tryz.prog 172 false [.nilFunc]:=Ty.of (bytes:=8) (.nilFunc) Tryz.underlying172 rfl ae rfl oC
instance My:Ty Tryz.prog 173 true Kb:=Ty.of (bytes:=192) (.agg (Kb).toArray) Tryz.underlying173 rfl ae rfl oC
instance MY:Ty Tryz.prog 192 true CA:=Ty.of (bytes:=32) (.agg (CA).toArray) Tryz.underlying192 rfl ae rfl oC
instance Oa:Ty Tryz.prog 217 false [.slice none 0 0]:=Ty.of (bytes:=24) (.slice none 0 0) Tryz.underlying217 rfl ae rfl oC
instance NX:Ty Tryz.prog 225 true xF:=Ty.of (bytes:=40) (.agg (xF).toArray) Tryz.underlying225 rfl ae rfl oC
instance Qg:Elem Tryz.prog 22 3 1 8 [.int .i64 0]:=Elem.of (.int .i64 0) Tryz.underlying22 ae rfl rfl ah ah oC
instance Pk:Elem Tryz.prog 23 48 2 16 [.int .i64 0, .int .i64 0]:=Elem.of (.agg #[.int .i64 0, .int .i64 0]) Tryz.underlying23 ae rfl rfl ah ah oC
instance Ou:Elem Tryz.prog 32 57 5 40 HN:=Elem.of (.agg (HN).toArray) Tryz.underlying32 ae rfl rfl ah ah oC
instance Ph:Elem Tryz.prog 61 9 1 16 [.string ByteArray.empty]:=Elem.of (.string ByteArray.empty) Tryz.underlying61 ae rfl rfl ah ah oC
instance Pf:Elem Tryz.prog 62 73 5 64 HM:=Elem.of (.agg (HM).toArray) Tryz.underlying62 ae rfl rfl ah ah oC
instance OJ:Elem Tryz.prog 69 71 4 56 HI:=Elem.of (.agg (HI).toArray) Tryz.underlying69 ae rfl rfl ah ah oC
instance Oi:Elem Tryz.prog 217 225 4 40 xF:=Elem.of (.agg (xF).toArray) Tryz.underlying217 ae rfl rfl ah ah oC
instance LW:Elem Tryz.prog 275 61 1 24 [.slice none 0 0]:=Elem.of (.slice none 0 0) Tryz.underlying275 ae rfl rfl ah ah oC
instance Kq:gG Tryz.prog 26 0 0:=⟨fun ad w=> by kernel_rfl⟩
instance KB:gG Tryz.prog 26 1 1:=⟨fun ad w=> by kernel_rfl⟩
instance Lc:gG Tryz.prog 26 2 41:=⟨fun ad w=> by kernel_rfl⟩
instance Lf:gG Tryz.prog 26 3 42:=⟨fun ad w=> by kernel_rfl⟩
instance Kv:gG Tryz.prog 34 0 0:=⟨fun ad w=> by kernel_rfl⟩
instance KN:gG Tryz.prog 34 1 1:=⟨fun ad w=> by kernel_rfl⟩
instance KZ:gG Tryz.prog 34 2 2:=⟨fun ad w=> by kernel_rfl⟩
instance Lu:gG Tryz.prog 34 3 3:=⟨fun ad w=> by kernel_rfl⟩
instance KC:gG Tryz.prog 34 4 4:=⟨fun ad w=> by kernel_rfl⟩
instance LB:gG Tryz.prog 48 0 0:=⟨fun ad w=> by kernel_rfl⟩
instance Ks:gG Tryz.prog 48 1 1:=⟨fun ad w=> by kernel_rfl⟩
instance KK:gG Tryz.prog 64 0 0:=⟨fun ad w=> by kernel_rfl⟩
instance Ll:gG Tryz.prog 64 1 1:=⟨fun ad w=> by kernel_rfl⟩
instance Lp:gG Tryz.prog 64 2 2:=⟨fun ad w=> by kernel_rfl⟩
instance LE:gG Tryz.prog 71 0 0:=⟨fun ad w=> by kernel_rfl⟩
instance Kn:gG Tryz.prog 71 1 1:=⟨fun ad w=> by kernel_rfl⟩
instance Lm:gG Tryz.prog 71 2 2:=⟨fun ad w=> by kernel_rfl⟩
instance Lk:gG Tryz.prog 71 3 3:=⟨fun ad w=> by kernel_rfl⟩
instance Ld:gG Tryz.prog 73 0 0:=⟨fun ad w=> by kernel_rfl⟩
instance KV:gG Tryz.prog 73 1 1:=⟨fun ad w=> by kernel_rfl⟩
instance Kj:gG Tryz.prog 129 0 0:=⟨fun ad w=> by kernel_rfl⟩
instance JK:gG Tryz.prog 129 1 1:=⟨fun ad w=> by kernel_rfl⟩
instance JD:gG Tryz.prog 129 2 2:=⟨fun ad w=> by kernel_rfl⟩
instance JJ:gG Tryz.prog 132 0 0:=⟨fun ad w=> by kernel_rfl⟩
instance Jw:gG Tryz.prog 132 1 1:=⟨fun ad w=> by kernel_rfl⟩
instance Kf:gG Tryz.prog 139 0 0:=⟨fun ad w=> by kernel_rfl⟩
instance Ke:gG Tryz.prog 139 1 1:=⟨fun ad w=> by kernel_rfl⟩
instance Jt:gG Tryz.prog 143 0 0:=⟨fun ad w=> by kernel_rfl⟩
instance JR:gG Tryz.prog 143 1 3:=⟨fun ad w=> by kernel_rfl⟩
instance JI:gG Tryz.prog 171 0 0:=⟨fun ad w=> by kernel_rfl⟩
instance JT:gG Tryz.prog 171 1 43:=⟨fun ad w=> by kernel_rfl⟩
instance JV:gG Tryz.prog 171 2 53:=⟨fun ad w=> by kernel_rfl⟩
instance JF:gG Tryz.prog 171 3 54:=⟨fun ad w=> by kernel_rfl⟩
instance JE:gG Tryz.prog 171 4 59:=⟨fun ad w=> by kernel_rfl⟩
instance JG:gG Tryz.prog 171 5 60:=⟨fun ad w=> by kernel_rfl⟩
instance Jx:gG Tryz.prog 171 6 61:=⟨fun ad w=> by kernel_rfl⟩
instance Ki:gG Tryz.prog 171 7 62:=⟨fun ad w=> by kernel_rfl⟩
instance JU:gG Tryz.prog 171 8 63:=⟨fun ad w=> by kernel_rfl⟩
instance JX:gG Tryz.prog 192 0 0:=⟨fun ad w=> by kernel_rfl⟩
instance JS:gG Tryz.prog 192 1 1:=⟨fun ad w=> by kernel_rfl⟩
instance JZ:gG Tryz.prog 222 0 0:=⟨fun ad w=> by kernel_rfl⟩
instance Kk:gG Tryz.prog 222 1 1:=⟨fun ad w=> by kernel_rfl⟩
instance Ka:gG Tryz.prog 222 3 3:=⟨fun ad w=> by kernel_rfl⟩
instance JA:gG Tryz.prog 222 4 4:=⟨fun ad w=> by kernel_rfl⟩
instance JM:gG Tryz.prog 225 0 0:=⟨fun ad w=> by kernel_rfl⟩
instance JN:gG Tryz.prog 225 2 2:=⟨fun ad w=> by kernel_rfl⟩
instance JY:gG Tryz.prog 225 3 3:=⟨fun ad w=> by kernel_rfl⟩
instance OS:ce Tryz.prog 21:=⟨fun args w=> by kernel_rfl⟩
instance Qi:ce Tryz.prog 22:=⟨fun args w=> by kernel_rfl⟩
instance PZ:ce Tryz.prog 23:=⟨fun args w=> by kernel_rfl⟩
instance Ps:ce Tryz.prog 24:=⟨fun args w=> by kernel_rfl⟩
instance PB:ce Tryz.prog 27:=⟨fun args w=> by kernel_rfl⟩
instance PU:ce Tryz.prog 30:=⟨fun args w=> by kernel_rfl⟩
instance PT:ce Tryz.prog 33:=⟨fun args w=> by kernel_rfl⟩
instance Pl:ce Tryz.prog 34:=⟨fun args w=> by kernel_rfl⟩
instance Pv:ce Tryz.prog 35:=⟨fun args w=> by kernel_rfl⟩
instance OO:ce Tryz.prog 36:=⟨fun args w=> by kernel_rfl⟩
instance Oy:ce Tryz.prog 37:=⟨fun args w=> by kernel_rfl⟩
instance Ox:ce Tryz.prog 38:=⟨fun args w=> by kernel_rfl⟩
instance ON:ce Tryz.prog 57:=⟨fun args w=> by kernel_rfl⟩
instance Pd:ce Tryz.prog 58:=⟨fun args w=> by kernel_rfl⟩
instance OB:ce Tryz.prog 59:=⟨fun args w=> by kernel_rfl⟩
instance PJ:ce Tryz.prog 60:=⟨fun args w=> by kernel_rfl⟩
instance Pw:ce Tryz.prog 64:=⟨fun args w=> by kernel_rfl⟩
instance OH:ce Tryz.prog 66:=⟨fun args w=> by kernel_rfl⟩
instance Ql:ce Tryz.prog 67:=⟨fun args w=> by kernel_rfl⟩
instance PR:ce Tryz.prog 68:=⟨fun args w=> by kernel_rfl⟩
instance Ov:ce Tryz.prog 69:=⟨fun args w=> by kernel_rfl⟩
instance PC:ce Tryz.prog 70:=⟨fun args w=> by kernel_rfl⟩
instance PI:ce Tryz.prog 71:=⟨fun args w=> by kernel_rfl⟩
instance PL:ce Tryz.prog 72:=⟨fun args w=> by kernel_rfl⟩
instance Pc:ce Tryz.prog 73:=⟨fun args w=> by kernel_rfl⟩
instance PN:ce Tryz.prog 74:=⟨fun args w=> by kernel_rfl⟩
instance Qm:ce Tryz.prog 91:=⟨fun args w=> by kernel_rfl⟩
instance Qa:ce Tryz.prog 92:=⟨fun args w=> by kernel_rfl⟩
instance Pu:ce Tryz.prog 93:=⟨fun args w=> by kernel_rfl⟩
instance PP:ce Tryz.prog 94:=⟨fun args w=> by kernel_rfl⟩
instance PD:ce Tryz.prog 95:=⟨fun args w=> by kernel_rfl⟩
instance OZ:ce Tryz.prog 96:=⟨fun args w=> by kernel_rfl⟩
instance Pj:ce Tryz.prog 97:=⟨fun args w=> by kernel_rfl⟩
instance OX:ce Tryz.prog 98:=⟨fun args w=> by kernel_rfl⟩
instance PA:ce Tryz.prog 99:=⟨fun args w=> by kernel_rfl⟩
instance Nt:ce Tryz.prog 100:=⟨fun args w=> by kernel_rfl⟩
instance Np:ce Tryz.prog 101:=⟨fun args w=> by kernel_rfl⟩
instance MF:ce Tryz.prog 102:=⟨fun args w=> by kernel_rfl⟩
instance LX:ce Tryz.prog 103:=⟨fun args w=> by kernel_rfl⟩
instance NF:ce Tryz.prog 104:=⟨fun args w=> by kernel_rfl⟩
instance LP:ce Tryz.prog 105:=⟨fun args w=> by kernel_rfl⟩
instance Nb:ce Tryz.prog 106:=⟨fun args w=> by kernel_rfl⟩
instance Mw:ce Tryz.prog 107:=⟨fun args w=> by kernel_rfl⟩
instance LR:ce Tryz.prog 121:=⟨fun args w=> by kernel_rfl⟩
instance NY:ce Tryz.prog 122:=⟨fun args w=> by kernel_rfl⟩
instance MN:ce Tryz.prog 123:=⟨fun args w=> by kernel_rfl⟩
instance Nq:ce Tryz.prog 124:=⟨fun args w=> by kernel_rfl⟩
instance Mn:ce Tryz.prog 125:=⟨fun args w=> by kernel_rfl⟩
instance Ni:ce Tryz.prog 126:=⟨fun args w=> by kernel_rfl⟩
instance MX:ce Tryz.prog 127:=⟨fun args w=> by kernel_rfl⟩
instance NZ:ce Tryz.prog 128:=⟨fun args w=> by kernel_rfl⟩
instance Nz:ce Tryz.prog 129:=⟨fun args w=> by kernel_rfl⟩
instance Mz:ce Tryz.prog 130:=⟨fun args w=> by kernel_rfl⟩
instance MO:ce Tryz.prog 131:=⟨fun args w=> by kernel_rfl⟩
instance NB:ce Tryz.prog 132:=⟨fun args w=> by kernel_rfl⟩
instance NM:ce Tryz.prog 133:=⟨fun args w=> by kernel_rfl⟩
instance MS:ce Tryz.prog 134:=⟨fun args w=> by kernel_rfl⟩
instance LY:ce Tryz.prog 135:=⟨fun args w=> by kernel_rfl⟩
instance ME:ce Tryz.prog 136:=⟨fun args w=> by kernel_rfl⟩
instance NA:ce Tryz.prog 137:=⟨fun args w=> by kernel_rfl⟩
instance MK:ce Tryz.prog 138:=⟨fun args w=> by kernel_rfl⟩
instance Mu:ce Tryz.prog 139:=⟨fun args w=> by kernel_rfl⟩
instance Ma:ce Tryz.prog 140:=⟨fun args w=> by kernel_rfl⟩
instance NC:ce Tryz.prog 141:=⟨fun args w=> by kernel_rfl⟩
instance NK:ce Tryz.prog 142:=⟨fun args w=> by kernel_rfl⟩
instance MZ:ce Tryz.prog 143:=⟨fun args w=> by kernel_rfl⟩
instance Ns:ce Tryz.prog 144:=⟨fun args w=> by kernel_rfl⟩
instance MC:ce Tryz.prog 145:=⟨fun args w=> by kernel_rfl⟩
instance MH:ce Tryz.prog 146:=⟨fun args w=> by kernel_rfl⟩
instance Nc:ce Tryz.prog 147:=⟨fun args w=> by kernel_rfl⟩
instance NG:ce Tryz.prog 148:=⟨fun args w=> by kernel_rfl⟩
instance Mp:ce Tryz.prog 149:=⟨fun args w=> by kernel_rfl⟩
instance Md:ce Tryz.prog 150:=⟨fun args w=> by kernel_rfl⟩
instance Nu:ce Tryz.prog 151:=⟨fun args w=> by kernel_rfl⟩
instance Ng:ce Tryz.prog 152:=⟨fun args w=> by kernel_rfl⟩
instance NV:ce Tryz.prog 153:=⟨fun args w=> by kernel_rfl⟩
instance LV:ce Tryz.prog 154:=⟨fun args w=> by kernel_rfl⟩
instance NT:ce Tryz.prog 155:=⟨fun args w=> by kernel_rfl⟩
instance MJ:ce Tryz.prog 159:=⟨fun args w=> by kernel_rfl⟩
instance NN:ce Tryz.prog 160:=⟨fun args w=> by kernel_rfl⟩
instance Nj:ce Tryz.prog 161:=⟨fun args w=> by kernel_rfl⟩
instance NH:ce Tryz.prog 162:=⟨fun args w=> by kernel_rfl⟩
instance MA:ce Tryz.prog 163:=⟨fun args w=> by kernel_rfl⟩
instance LT:ce Tryz.prog 164:=⟨fun args w=> by kernel_rfl⟩
instance Nw:ce Tryz.prog 165:=⟨fun args w=> by kernel_rfl⟩
instance NW:ce Tryz.prog 166:=⟨fun args w=> by kernel_rfl⟩
instance Og:ce Tryz.prog 167:=⟨fun args w=> by kernel_rfl⟩
instance Mj:ce Tryz.prog 168:=⟨fun args w=> by kernel_rfl⟩
instance Mo:ce Tryz.prog 169:=⟨fun args w=> by kernel_rfl⟩
instance LZ:ce Tryz.prog 170:=⟨fun args w=> by kernel_rfl⟩
instance Mb:ce Tryz.prog 171:=⟨fun args w=> by kernel_rfl⟩
instance ND:ce Tryz.prog 172:=⟨fun args w=> by kernel_rfl⟩
instance MI:ce Tryz.prog 173:=⟨fun args w=> by kernel_rfl⟩
instance Mi:ce Tryz.prog 174:=⟨fun args w=> by kernel_rfl⟩
instance Mr:ce Tryz.prog 175:=⟨fun args w=> by kernel_rfl⟩
instance Nf:ce Tryz.prog 176:=⟨fun args w=> by kernel_rfl⟩
instance MM:ce Tryz.prog 177:=⟨fun args w=> by kernel_rfl⟩
instance NP:ce Tryz.prog 178:=⟨fun args w=> by kernel_rfl⟩
instance MP:ce Tryz.prog 179:=⟨fun args w=> by kernel_rfl⟩
instance MB:ce Tryz.prog 187:=⟨fun args w=> by kernel_rfl⟩
instance NS:ce Tryz.prog 188:=⟨fun args w=> by kernel_rfl⟩
instance LS:ce Tryz.prog 189:=⟨fun args w=> by kernel_rfl⟩
instance Mm:ce Tryz.prog 190:=⟨fun args w=> by kernel_rfl⟩
instance Of:ce Tryz.prog 194:=⟨fun args w=> by kernel_rfl⟩
instance LQ:ce Tryz.prog 195:=⟨fun args w=> by kernel_rfl⟩
instance Nh:ce Tryz.prog 196:=⟨fun args w=> by kernel_rfl⟩
instance Mx:ce Tryz.prog 197:=⟨fun args w=> by kernel_rfl⟩
instance MD:ce Tryz.prog 199:=⟨fun args w=> by kernel_rfl⟩
instance Oc:ce Tryz.prog 200:=⟨fun args w=> by kernel_rfl⟩
instance NL:ce Tryz.prog 201:=⟨fun args w=> by kernel_rfl⟩
instance Nk:ce Tryz.prog 202:=⟨fun args w=> by kernel_rfl⟩
instance LN:ce Tryz.prog 203:=⟨fun args w=> by kernel_rfl⟩
instance Ob:ce Tryz.prog 204:=⟨fun args w=> by kernel_rfl⟩
instance Nx:ce Tryz.prog 205:=⟨fun args w=> by kernel_rfl⟩
instance Mt:ce Tryz.prog 206:=⟨fun args w=> by kernel_rfl⟩
instance No:ce Tryz.prog 221:=⟨fun args w=> by kernel_rfl⟩
instance MG:ce Tryz.prog 222:=⟨fun args w=> by kernel_rfl⟩
instance LJ:ce Tryz.prog 223:=⟨fun args w=> by kernel_rfl⟩
instance Mh:ce Tryz.prog 224:=⟨fun args w=> by kernel_rfl⟩
instance Ny:ce Tryz.prog 225:=⟨fun args w=> by kernel_rfl⟩
instance Ol:ce Tryz.prog 226:=⟨fun args w=> by kernel_rfl⟩
instance LK:ce Tryz.prog 227:=⟨fun args w=> by kernel_rfl⟩
instance Mv:ce Tryz.prog 235:=⟨fun args w=> by kernel_rfl⟩
instance NI:ce Tryz.prog 236:=⟨fun args w=> by kernel_rfl⟩
instance LI:ce Tryz.prog 237:=⟨fun args w=> by kernel_rfl⟩
instance MW:ce Tryz.prog 240:=⟨fun args w=> by kernel_rfl⟩
end Go.Proofs.YtmjnackchaahbaaGreat

namespace Go.Proofs.YtmjnackchaahbaaGreat

instance Pz:Bld Tryz.prog 26 JC (fun i=> ([(0,1),(1,40),(41,1),(42,1)]:List (Nat×Nat))[i]?):=Bld.struct (bytes:=360) (.agg (JC).toArray) [(0,1),(1,40),(41,1),(42,1)] Tryz.underlying26 ae rfl oC (fun w=> by kernel_rfl)
instance PX:Bld Tryz.prog 34 Jv (fun i=> ([(0,1),(1,1),(2,1),(3,1),(4,1)]:List (Nat×Nat))[i]?):=Bld.struct (bytes:=88) (.agg (Jv).toArray) [(0,1),(1,1),(2,1),(3,1),(4,1)] Tryz.underlying34 ae rfl oC (fun w=> by kernel_rfl)
instance OA:Bld Tryz.prog 48 [.int .i64 0, .int .i64 0] (fun i=> ([(0,1),(1,1)]:List (Nat×Nat))[i]?):=Bld.struct (bytes:=16) (.agg #[.int .i64 0, .int .i64 0]) [(0,1),(1,1)] Tryz.underlying48 ae rfl oC (fun w=> by kernel_rfl)
instance Qn:Bld Tryz.prog 57 HN (fun i=> ([(0,1),(1,1),(2,1),(3,1),(4,1)]:List (Nat×Nat))[i]?):=Bld.struct (bytes:=40) (.agg (HN).toArray) [(0,1),(1,1),(2,1),(3,1),(4,1)] Tryz.underlying57 ae rfl oC (fun w=> by kernel_rfl)
instance Px:Bld Tryz.prog 64 Jy (fun i=> ([(0,1),(1,1),(2,1)]:List (Nat×Nat))[i]?):=Bld.struct (bytes:=72) (.agg (Jy).toArray) [(0,1),(1,1),(2,1)] Tryz.underlying64 ae rfl oC (fun w=> by kernel_rfl)
instance PQ:Bld Tryz.prog 71 HI (fun i=> ([(0,1),(1,1),(2,1),(3,1)]:List (Nat×Nat))[i]?):=Bld.struct (bytes:=56) (.agg (HI).toArray) [(0,1),(1,1),(2,1),(3,1)] Tryz.underlying71 ae rfl oC (fun w=> by kernel_rfl)
instance Ow:Bld Tryz.prog 73 HM (fun i=> ([(0,1),(1,4)]:List (Nat×Nat))[i]?):=Bld.struct (bytes:=64) (.agg (HM).toArray) [(0,1),(1,4)] Tryz.underlying73 ae rfl oC (fun w=> by kernel_rfl)
instance Mg:Bld Tryz.prog 129 Ig (fun i=> ([(0,1),(1,1),(2,1)]:List (Nat×Nat))[i]?):=Bld.struct (bytes:=56) (.agg (Ig).toArray) [(0,1),(1,1),(2,1)] Tryz.underlying129 ae rfl oC (fun w=> by kernel_rfl)
instance Na:Bld Tryz.prog 132 JH (fun i=> ([(0,1),(1,9)]:List (Nat×Nat))[i]?):=Bld.struct (bytes:=96) (.agg (JH).toArray) [(0,1),(1,9)] Tryz.underlying132 ae rfl oC (fun w=> by kernel_rfl)
instance Oj:Bld Tryz.prog 139 [.slice none 0 0, .int .i64 0] (fun i=> ([(0,1),(1,1)]:List (Nat×Nat))[i]?):=Bld.struct (bytes:=32) (.agg #[.slice none 0 0, .int .i64 0]) [(0,1),(1,1)] Tryz.underlying139 ae rfl oC (fun w=> by kernel_rfl)
instance Mc:Bld Tryz.prog 143 IU (fun i=> ([(0,3),(3,1)]:List (Nat×Nat))[i]?):=Bld.struct (bytes:=96) (.agg (IU).toArray) [(0,3),(3,1)] Tryz.underlying143 ae rfl oC (fun w=> by kernel_rfl)
instance Oh:Bld Tryz.prog 171 IJ (fun i=> ([(0,43),(43,10),(53,1),(54,5),(59,1),(60,1),(61,1),(62,1),(63,1)]:List (Nat×Nat))[i]?):=Bld.struct (bytes:=608) (.agg (IJ).toArray) [(0,43),(43,10),(53,1),(54,5),(59,1),(60,1),(61,1),(62,1),(63,1)] Tryz.underlying171 ae rfl oC (fun w=> by kernel_rfl)
instance Nv:Bld Tryz.prog 173 Kb (fun i=> some (i*1,1)):=Bld.array (bytes:=192) (.agg (Kb).toArray) Tryz.underlying173 ae rfl oC ae
instance Ml:Bld Tryz.prog 176 [] (fun i=> ([]:List (Nat×Nat))[i]?):=Bld.struct (bytes:=0) (.agg #[]) [] Tryz.underlying176 ae rfl oC (fun w=> by kernel_rfl)
instance MR:Bld Tryz.prog 192 CA (fun i=> ([(0,1),(1,1),(2,1),(3,1)]:List (Nat×Nat))[i]?):=Bld.struct (bytes:=32) (.agg (CA).toArray) [(0,1),(1,1),(2,1),(3,1)] Tryz.underlying192 ae rfl oC (fun w=> by kernel_rfl)
instance NQ:Bld Tryz.prog 222 Jk (fun i=> ([(0,1),(1,1),(2,1),(3,1),(4,1)]:List (Nat×Nat))[i]?):=Bld.struct (bytes:=72) (.agg (Jk).toArray) [(0,1),(1,1),(2,1),(3,1),(4,1)] Tryz.underlying222 ae rfl oC (fun w=> by kernel_rfl)
instance Ok:Bld Tryz.prog 225 xF (fun i=> ([(0,1),(1,1),(2,1),(3,1)]:List (Nat×Nat))[i]?):=Bld.struct (bytes:=40) (.agg (xF).toArray) [(0,1),(1,1),(2,1),(3,1)] Tryz.underlying225 ae rfl oC (fun w=> by kernel_rfl)
end Go.Proofs.YtmjnackchaahbaaGreat

set_option maxHeartbeats 2000000
namespace Go.Proofs.YtmjnackchaahbaaGreat
open Go.RowKit
def gZ (n m:Int):Int:=(if n < 0 then -(n+1) else n) % m
theorem nb (n m:Int) (h:0 < m):0≤gZ n m:=Int.emod_nonneg _ ab
theorem nA (n m:Int) (h:0 < m):gZ n m < m:=Int.emod_lt_of_pos _ h
theorem iG (n m:Int) (hm:1≤m) (h1:m≤4611686018427387904) (h2: -9223372036854775808≤n) (h3:n≤9223372036854775807):
  Spec Tryz.prog 33 (aQ [.v (.int .i64 n), .v (.int .i64 m)] []) (aG (.v (.int .i64 (gZ n m))) []):=by
 refine Spec.ofN Tryz.func33 rfl Tryz.ntmps33 rfl ?_
 refine go 8 ?_
 refine aD rfl (fun hc6=> ?_) (fun hc6=> ?_)
 ·refine go 3 ?_
  refine ai (vF _ rfl (bT ab)) ?_
  refine go 5 ?_
  refine ai (cA _ _ rfl rfl ab (Int.tmod_eq_emod_of_nonneg ab)) ?_
  refine bF rfl (aj (aq (oB rfl rfl ?_)))
  unfold gZ
  rw [if_pos hc6]
 refine cX (aH (bE rfl (bE rfl (ai (cA _ _ rfl rfl ab (Int.tmod_eq_emod_of_nonneg ab)) ?_))))
 refine bF rfl (aj (aq (oB rfl rfl ?_)))
 unfold gZ
 rw [if_neg ab]

theorem yJ (n m:Nat) (xs ys:List Int) (hn:xs.length=n) (hm:ys.length=m) (h1:n≤4611686018427387904) (h2:m≤4611686018427387904):
  Spec Tryz.prog 30 (aQ [.sl n (cB xs), .sl m (cB ys)] []) (aG (.v (.bool (decide (xs=ys)))) []):=by
 subst hn;subst hm
 refine Spec.ofN Tryz.func30 rfl Tryz.ntmps30 rfl ?_
 refine go 9 ?_
 refine ai (dv _ _ rfl rfl rfl) (aj (aD rfl (fun hc10=> ?_) (fun hc10=> ?_)))
 ·refine aH (gP rfl (aj (aq (kV rfl rfl ?_))))
  exact decide_eq_false fun h=> by subst h;omega
 refine cX (ax fun K5 hK5=> ?_)
 refine aH (bF rfl (aj (aN ?_)))
 refine aX (α:=Nat) (fun k=> k≤xs.length∧xs.length=ys.length∧xs.take k=ys.take k) 26 [(0,_),(1,_)] [] (fun k=> [(5, .v (.int .i64 (k:Int)))]) (fun k=> []) [] [] (fun k=> xs.length - k) 0 ?_ (by
  refine Le.mkJ [] [] rfl ?_ ?_ trivial trivial ?_
  ·exact ⟨(by exact iS rfl),(by exact iS rfl),(eN ag),trivial⟩
  ·exact trivial
  kernel_rfl) ?_
 ·exact ⟨by omega,by omega,rfl⟩
 intro k hk
 obtain ⟨hk,hl,ht⟩:=hk
 refine ax fun K7 hK7=> ?_
 refine go 6 ?_
 refine aD rfl (fun hc14=> ?_) (fun hc14=> ?_)
 ·have hkx:k < xs.length:=by omega
  have hky:k < ys.length:=by omega
  refine aU (hK7 _ ?_)
  refine aA (aN (aA ?_))
  refine az (σ':=ap 26 [(0,_),(1,_),(5,_)] [] [] []) (by
   refine Le.mkJ [] [] rfl ?_ ?_ trivial trivial ?_
   ·exact ⟨(by exact iS rfl),(by exact iS rfl),(iV rfl),trivial⟩
   ·exact trivial
   kernel_rfl) ?_
  refine dA 9 [] ?_
  refine go 4 ?_
  refine aJ (_,[]) (fun τ=> aL _ _ aa rfl rfl _ rfl ab (by (simp only [aM,aW,aV];omega)) (by exact Nat.mul_one _)) ?_
  refine go 1 ?_
  refine aJ (_,[]) (fun τ=> bh _ aa rfl (by exact cU _ _ ab) rfl) ?_
  refine go 5 ?_
  refine aJ (_,[]) (fun τ=> aL _ _ aa rfl rfl _ rfl ab (by (simp only [aM,aW,aV];omega)) (by exact Nat.mul_one _)) ?_
  refine go 1 ?_
  refine aJ (_,[]) (fun τ=> bh _ aa rfl (by exact cU _ _ ab) rfl) ?_
  refine go 1 ?_
  refine aJ (_,[]) (fun τ=> dv _ _ rfl rfl rfl) ?_
  refine go 1 ?_
  refine cD ⟨rfl,?_⟩
  refine aj (aD rfl (fun hc25=> ?_) (fun hc25=> ?_))
  ·refine aH (gP rfl (aj (aq (kV rfl rfl ?_))))
   exact decide_eq_false fun h=> by subst h;exact hc25 rfl
  refine go 5 ?_
  refine am (⟨k+1,?_,?_,?_⟩)
  ·refine ⟨by omega,hl,?_⟩
   rw [rQ _ _ _ hkx,rQ _ _ _ hky] at hc25
   rw [List.take_succ_eq_append_getElem hkx,List.take_succ_eq_append_getElem hky,ht,hc25]
  ·refine Le.mkJ [] [] rfl ?_ ?_ trivial trivial ?_
   ·exact ⟨(by exact iS rfl),(by exact iS rfl),(eN ag),trivial⟩
   ·exact trivial
   kernel_rfl
  omega
 refine bm (id (hK5 _ ?_))
 refine aH (gP rfl (aj (aq (kV rfl rfl ?_))))
 rw [List.take_of_length_le ab,List.take_of_length_le ab] at ht
 exact decide_eq_true ht
end Go.Proofs.YtmjnackchaahbaaGreat

set_option maxHeartbeats 2000000
namespace Go.Proofs.YtmjnackchaahbaaGreat
open Go.RowKit

theorem nL (b:UInt8):Spec Tryz.prog 221 (aQ [.v (.int .u8 (b.toNat:Int))] []) (aG (.v (.bool (mT b))) []):=by
 have h:=Bj b
 refine Spec.ofN Tryz.func221 rfl Tryz.ntmps221 rfl ?_
 refine go 7 ?_
 refine dn (fun hg5=> ?_) (fun hg5=> ?_)
 ·have h:mT b=decide ((b.toNat:Int)≤122):=by rw [Bool.eq_iff_iff,h];simp [hg5]
  refine go 5 ?_
  refine aq (kV rfl rfl ?_)
  exact h
 have h:mT b=false:=FJ h (fun x=> by omega)
 refine go 5 ?_
 refine aq (kV rfl rfl ?_)
 exact h
theorem lD (b:UInt8):Spec Tryz.prog 222 (aQ [.v (.int .u8 (b.toNat:Int))] []) (aG (.v (.bool (fz b))) []):=by
 have h:=uh b
 refine Spec.ofN Tryz.func222 rfl Tryz.ntmps222 rfl ?_
 refine go 7 ?_
 refine dn (fun hg5=> ?_) (fun hg5=> ?_)
 ·have h:fz b=decide ((b.toNat:Int)≤57):=by rw [Bool.eq_iff_iff,h];simp [hg5]
  refine go 5 ?_
  refine aq (kV rfl rfl ?_)
  exact h
 have h:fz b=false:=FJ h (fun x=> by omega)
 refine go 5 ?_
 refine aq (kV rfl rfl ?_)
 exact h
theorem pw (l:List Tx) (n:Nat) (hn:l.length=n) (h1:n≤1000) (t:Tx):Spec Tryz.prog 224 (aQ [.sl n (dh l), .v (bt t)] []) (aG (.v (.bool (decide (t∈l)))) []):=by
 refine Spec.ofN Tryz.func224 rfl Tryz.ntmps224 rfl ?_
 refine aH (gP rfl (aj (ax fun K2 hK2=> ?_)))
 refine aH (bF rfl (aj (aN ?_)))
 refine aX (α:=Nat) (fun k=> k≤n∧t∉l.take k) 18 [(0,_),(1,_)] [] (fun k=> [(5, .v (.int .i64 (k:Int)))]) (fun k=> []) [] [] (fun k=> n - k) 0 ?_ (kj [] [] []) ?_
 ·exact ⟨Nat.zero_le _,by simp⟩
 intro k hk
 obtain ⟨hk,hnt⟩:=hk
 refine ax fun K4 hK4=> ?_
 refine go 6 ?_
 refine aD rfl (fun hc9=> ?_) (fun hc9=> ?_)
 ·refine aU (hK4 _ ?_)
  refine aA (aN (aH (jV rfl (bE rfl (ai (aL _ _ aa rfl rfl _ rfl ab (by (simp only [aM,aW,aV,bj];omega)) (by exact Nat.mul_one _)) ?_)))))
  refine ai (bh _ aa rfl (by exact ew _ _ ab) rfl) ?_
  refine so rfl (ai (bJ _ _ Tryz.underlying9 rfl rfl rfl) (aj (aD rfl (fun hc17=> ?_) (fun hc17=> ?_))))
  ·refine aH (gP rfl (aj (aq (kV rfl rfl ?_))))
   exact decide_eq_true (hc17 ▸ jo ab)
  refine go 5 ?_
  refine am (⟨k+1,?_,?_,?_⟩)
  ·exact ⟨by omega,jI hnt ab hc17⟩
  ·exact kj [] [] []
  omega
 have hall:t∉l:=by rwa [List.take_of_length_le ab] at hnt
 refine bm (id (hK2 _ ?_))
 refine aH (gP rfl (aj (aq (kV rfl rfl ?_))))
 exact decide_eq_false hall
theorem qU (s:Tx) (at_:Nat) (h1:s.length≤100000) (ha:at_≤s.length):Spec Tryz.prog 194 (aQ [.v (bt s), .v (.int .i64 (at_:Int))] []) (aG (.v (.int .i64 (jR s at_ false:Int))) []):=by
 refine Spec.ofN Tryz.func194 rfl Tryz.ntmps194 rfl ?_
 refine aH (bF rfl (aj (ax fun K2 hK2=> ?_)))
 refine aN ?_
 refine aX (α:=Nat) (fun k=> k≤s.length∧jR s k false=jR s at_ false) 41 [(0,_)] [] (fun k=> [(1, .v (.int .i64 (k:Int)))]) (fun k=> []) [] [] (fun k=> s.length - k) at_ ?_ (kj [] [] []) ?_
 ·exact ⟨ha,rfl⟩
 intro k hk
 obtain ⟨hk,hs⟩:=hk
 refine ax fun K3 hK3=> ?_
 refine go 6 ?_
 refine aD rfl (fun hc9=> ?_) (fun hc9=> ?_)
 ·obtain ⟨b,hb⟩:=jy (s:=s) (a:=k) ab
  have hbi:=KA b
  refine aU (hK3 _ ?_)
  refine aN (aH (so rfl (bE rfl (ai (kJ _ _ Tryz.underlying9 rfl rfl (by assumption)) ?_))))
  refine bF rfl (aj (aH (bE rfl (ai (ca _ _ rfl rfl rfl) (aj (aD rfl (fun hc14=> ?_) (fun hc14=> ?_)))))))
  ·have hs:=(Bs hb ab).symm.trans hs
   refine aN ?_
   refine aX (α:=Nat) (fun j=> k≤j∧j≤s.length∧jR s j true=jR s at_ false∧(j=k→j < s.length)) 41 [(0,_)] [] (fun j=> [(1, .v (.int .i64 (j:Int)))]) (fun j=> []) [] [] (fun j=> s.length - j) k ?_ (kj [] [] []) ?_
   ·exact ⟨Nat.le_refl _,by omega,hs,fun _=> by omega⟩
   intro j hj
   obtain ⟨hj1,hj2,hsj,hjk⟩:=hj
   refine ax fun K7 hK7=> ?_
   refine ax fun K8 hK8=> ?_
   refine go 6 ?_
   refine dn (fun hg19=> ?_) (fun hg19=> ?_)
   ·obtain ⟨u,hu⟩:=jy (s:=s) (a:=j) ab
    have hui:=KA u
    refine go 2 ?_
    refine aZ rfl rfl (kJ _ _ Tryz.underlying9 rfl rfl (by assumption)) ?_
    refine aZ rfl rfl (dv _ _ rfl rfl rfl) (go 1 ?_)
    refine am (hK8 _ ?_)
    refine aD rfl (fun hc24=> ?_) (fun hc24=> ?_)
    ·refine aU (hK7 _ ?_)
     refine go 5 ?_
     refine am (⟨j+1,?_,?_,?_⟩)
     ·exact ⟨by omega,by omega,(Gb hu ab).symm.trans hsj,fun _=> by omega⟩
     ·exact kj [] [] []
     omega
    have hjs:jR s j false=jR s at_ false:=by rw [← hsj,GT hu ab]
    have hjk':k < j:=Nat.lt_of_le_of_ne hj1 fun e=> by subst e;rw [hb] at hu;obtain rfl:=Option.some.inj hu;omega
    refine bm (id (⟨j,?_,?_,?_⟩))
    ·exact ⟨hj2,hjs⟩
    ·exact kj [] [] []
    omega
   have hjs:jR s j false=jR s at_ false:=by rw [← hsj,sh ab,sh ab]
   have hjk':k < j:=Nat.lt_of_le_of_ne hj1 fun e=> by have:=hjk e.symm;omega
   refine go 5 ?_
   refine am (hK8 _ ?_)
   refine cd rfl rfl (bm (id (⟨j,?_,?_,?_⟩)))
   ·exact ⟨hj2,hjs⟩
   ·exact kj [] [] []
   omega
  refine aH (bE rfl (ai (ca _ _ rfl rfl rfl) (HY rfl (dn (fun hg29=> ?_) (fun hg29=> ?_)))))
  ·have hs2:jR s (k+1) false=jR s at_ false:=(uL hb ab ab).symm.trans hs
   refine go 9 ?_
   refine az (σ':=ap 41 [(0,_),(1,_)] [] [] []) kp ?_
   refine go 4 ?_
   refine am (⟨k+1,?_,?_,?_⟩)
   ·exact ⟨by omega,hs2⟩
   ·exact kj [] [] []
   omega
  refine go 1 ?_
  refine aZ rfl rfl (ca _ _ rfl rfl rfl) (go 2 ?_)
  refine dn (fun hg33=> ?_) (fun hg33=> ?_)
  ·have hs2:jR s (k+1) false=jR s at_ false:=(uL hb ab ab).symm.trans hs
   refine go 5 ?_
   refine az (σ':=ap 41 [(0,_),(1,_)] [] [] []) kp ?_
   refine go 4 ?_
   refine am (⟨k+1,?_,?_,?_⟩)
   ·exact ⟨by omega,hs2⟩
   ·exact kj [] [] []
   omega
  refine go 1 ?_
  refine aZ rfl rfl (ca _ _ rfl rfl rfl) (go 2 ?_)
  refine aD rfl (fun hc36=> ?_) (fun hc36=> ?_)
  ·have hs2:jR s (k+1) false=jR s at_ false:=(uL hb ab ab).symm.trans hs
   refine az (σ':=ap 41 [(0,_),(1,_)] [] [] []) kp ?_
   refine go 4 ?_
   refine am (⟨k+1,?_,?_,?_⟩)
   ·exact ⟨by omega,hs2⟩
   ·exact kj [] [] []
   omega
  have hs3:=(EJ hb ab ab).symm.trans hs
  refine aA ?_
  refine az (σ':=ap 41 [(1,_)] [] [] []) kp ?_
  refine an (bE rfl (bF rfl (aj (aq (oB rfl rfl ?_)))))
  rw [hs3]
 refine bm (id (hK2 _ ?_))
 refine aH (bE rfl (bF rfl (aj (aq (oB rfl rfl ?_)))))
 rw [← hs,sh ab]
theorem pi (s:Tx) (h1:s.length≤100000) (hd: ∀ b∈s,fz b=true) (hv:jS s≤2147483647):Spec Tryz.prog 223 (aQ [.v (bt s)] []) (aG (.v (.int .i64 (jS s:Int))) []):=by
 have hvt:=fun i=> yl s i
 refine Spec.ofN Tryz.func223 rfl Tryz.ntmps223 rfl ?_
 refine go 6 ?_
 refine ax fun K3 hK3=> ?_
 refine aH (bF rfl (aj (aN ?_)))
 refine aX (α:=Nat) (fun k=> k≤s.length) 22 [(0,_)] [] (fun k=> [(3, .v (.int .i64 (jS (s.take k):Int))),(4, .v (.int .i64 (k:Int)))]) (fun k=> []) [] [] (fun k=> s.length - k) 0 ?_ (kj [] [] []) ?_
 ·omega
 intro k hk
 refine ax fun K5 hK5=> ?_
 refine go 6 ?_
 refine aD rfl (fun hc8=> ?_) (fun hc8=> ?_)
 ·obtain ⟨b,hb⟩:=jy (s:=s) (a:=k) ab
  have hbi:=KA b
  have hbd:=(uh b).1 (hd b (List.mem_of_getElem? hb))
  have hvs:=xE hb
  have hv0:=hvt k
  have hv1:=hvt (k+1)
  have hvi:(10:Int)*(jS (s.take k):Int)+(b.toNat:Int) - 48=(jS (s.take (k+1)):Int):=by omega
  refine aU (hK5 _ ?_)
  refine aA (aN (aH (bE rfl (ai (ze _ _ rfl rfl (bT ab)) ?_))))
  refine so rfl (bE rfl (ai (kJ _ _ Tryz.underlying9 rfl rfl (by assumption)) ?_))
  refine ai (Du _ Tryz.underlying5 Tryz.underlying3 rfl (bT ab)) ?_
  refine go 8 ?_
  refine cd rfl (decide_eq_false ab) ?_
  refine lk ?_
  refine az (σ':=ap 22 [(0,_),(3,_),(4,_)] [] [] []) kp ?_
  refine go 4 ?_
  refine am (⟨k+1,?_,?_,?_⟩)
  ·omega
  ·refine Le.mkJ [] [] rfl ?_ ?_ trivial trivial ?_
   ·exact ⟨(iV rfl),(eN ab),(eN ag),trivial⟩
   ·exact trivial
   kernel_rfl
  omega
 have he:s.take k=s:=List.take_of_length_le ab
 refine bm (id (hK3 _ ?_))
 refine aH (bE rfl (bF rfl (aj (aq (oB rfl rfl ?_)))))
 rw [he]
end Go.Proofs.YtmjnackchaahbaaGreat

set_option maxHeartbeats 2000000
namespace Go.Proofs.YtmjnackchaahbaaGreat
open Go.RowKit

theorem AR {p:UInt8→Bool} {c:UInt8}: ∀ {l:List UInt8},c∈l.takeWhile p→p c=true
 | [],h=> by simp at h
 | x::l,h=> by
  rw [List.takeWhile_cons] at h
  split at h
  ·rename_i hx
   rcases List.mem_cons.1 h with rfl | h
   ·exact hx
   exact AR h
  simp at h
def te (c:UInt8):Bool:=mT c || fz c
theorem qx {s:Tx} {a:Nat} {b:UInt8} {t:Tk} (hb:s[a]? =some b) (h1:mT b=true) (h:qm (s.drop a) a=some t):jX te s (a+1) - a≤10∧t=⟨1,a,(s.drop a).take (jX te s (a+1) - a),0⟩:=by
 rw [ta hb]
 rw [ff hb,qm] at h
 simp only [h1,if_true] at h
 rw [show jX te s (a+1) - a=(b::(s.drop (a+1)).takeWhile fun x=> mT x || fz x).length by unfold jX te;rw [List.length_cons];omega]
 split at h
 ·cases h
 rename_i hl;exact ⟨by omega,(Option.some.inj h).symm⟩
theorem tT {s:Tx} {a:Nat} {b:UInt8} {t:Tk} (hb:s[a]? =some b) (h1:mT b=false) (h2:fz b=true) (h:qm (s.drop a) a=some t):
  (∀ c∈(s.drop a).take (jX fz s (a+1) - a),fz c=true)∧jS ((s.drop a).take (jX fz s (a+1) - a))≤2147483647∧t=⟨2,a,(s.drop a).take (jX fz s (a+1) - a),jS ((s.drop a).take (jX fz s (a+1) - a))⟩:=by
 rw [ta hb]
 rw [ff hb,qm] at h
 simp only [h1,h2,if_true] at h
 simp only [Bool.false_eq_true,if_false] at h
 split at h
 ·cases h
 rename_i hl
 refine ⟨fun c hc=> ?_,by omega,(Option.some.inj h).symm⟩
 rcases List.mem_cons.1 hc with rfl | hc
 ·exact h2
 exact AR hc
theorem uf {s:Tx} {a:Nat} {b:UInt8} {t:Tk} (hb:s[a]? =some b) (h1:mT b=false) (h2:fz b=false) (h:qm (s.drop a) a=some t):
  ((s.drop a).take 2∈DY∧t=⟨3,a,(s.drop a).take 2,0⟩)∨((s.drop a).take 2∉DY∧(s.drop a).take 1∈FU∧t=⟨3,a,(s.drop a).take 1,0⟩):=by
 rw [ff hb,qm] at h
 simp only [h1,h2,Bool.false_eq_true,if_false] at h
 rw [ff hb]
 split at h
 ·rename_i hm;exact .inl ⟨hm,(Option.some.inj h).symm⟩
 rename_i hm
 split at h
 ·rename_i hs;exact .inr ⟨hm,hs,(Option.some.inj h).symm⟩
 cases h
theorem yA {s:Tx} {a:Nat} (h:a < s.length):(s.drop a).take (min (a+2) s.length - a)=(s.drop a).take 2:=by
 by_cases h2:a+2≤s.length
 ·congr 1;omega
 rw [List.take_of_length_le (by rw [List.length_drop];omega),List.take_of_length_le (by rw [List.length_drop];omega)]
theorem vo (s:Tx) (a:Nat) (h1:s.length≤100000) (ha:a < s.length) (t:Tk) (ht:qm (s.drop a) a=some t):
  Spec Tryz.prog 195 (aQ [.v (bt s), .v (.int .i64 (a:Int))] []) (aG (.tup [.agg [.v (.int .i64 (t.k:Int)), .v (.int .i64 (t.a:Int)), .v (bt t.t), .v (.int .i64 (t.n:Int))], .v (.int .i64 0)]) []):=by
 obtain ⟨b,hb⟩:=jy ha
 have hwl:=rU (p:=te) (s:=s) (a:=a+1) ab
 have hdl:=rU (p:=fz) (s:=s) (a:=a+1) ab
 refine Spec.ofN Tryz.func195 rfl Tryz.ntmps195 rfl ?_
 refine go 13 ?_
 refine ai (kJ _ _ Tryz.underlying9 rfl rfl (by assumption)) ?_
 refine ai (au aa al (nL b) rfl rfl) ?_
 refine aj (aD rfl (fun hc15=> ?_) (fun hc15=> ?_))
 ·obtain ⟨htl,hte⟩:=qx hb hc15 ht
  refine ax fun K5 hK5=> ?_
  refine aN ?_
  refine aX (α:=Nat) (fun e=> a+1≤e∧e≤s.length∧jX te s e=jX te s (a+1)) 101 [(0,_),(1,_),(4,_)] [((4,0),_)] (fun e=> [(6, .v (.int .i64 (e:Int)))]) (fun e=> []) [] [] (fun e=> s.length - e) (a+1) ?_ (kj [0] [] []) ?_
  ·exact ⟨Nat.le_refl _,by omega,rfl⟩
  intro e he
  obtain ⟨he1,he2,het⟩:=he
  refine ax fun K6 hK6=> ?_
  refine ax fun K7 hK7=> ?_
  refine go 6 ?_
  refine dn (fun hg20=> ?_) (fun hg20=> ?_)
  ·obtain ⟨u,hu⟩:=jy (s:=s) (a:=e) ab
   refine go 2 ?_
   refine aZ rfl rfl (kJ _ _ Tryz.underlying9 rfl rfl (by assumption)) ?_
   refine aZ rfl rfl (au aa al (nL u) rfl rfl) ?_
   refine go 1 ?_
   refine dn (fun hg25=> ?_) (fun hg25=> ?_)
   ·have hnx:jX te s (e+1)=jX te s (a+1):=(rT hu (by unfold te;rw [hg25];rfl)).symm.trans het
    refine go 6 ?_
    refine am (hK7 _ ?_)
    refine dH rfl rfl (aU (hK6 _ ?_))
    refine aN ?_
    refine az (σ':=ap 101 [(0,_),(1,_),(4,_),(6,_)] [((4,0),_)] [] []) kp ?_
    refine go 4 ?_
    refine am (⟨e+1,?_,?_,?_⟩)
    ·exact ⟨by omega,by omega,hnx⟩
    ·exact kj [0] [] []
    omega
   refine go 2 ?_
   refine aZ rfl rfl (kJ _ _ Tryz.underlying9 rfl rfl (by assumption)) ?_
   refine aZ rfl rfl (au aa al (lD u) rfl rfl) ?_
   refine go 2 ?_
   refine am (hK7 _ ?_)
   refine aD rfl (fun hc31=> ?_) (fun hc31=> ?_)
   ·have hnx:jX te s (e+1)=jX te s (a+1):=(rT hu (by unfold te;rw [hg25,hc31];rfl)).symm.trans het
    refine aU (hK6 _ ?_)
    refine aN ?_
    refine az (σ':=ap 101 [(0,_),(1,_),(4,_),(6,_)] [((4,0),_)] [] []) kp ?_
    refine go 4 ?_
    refine am (⟨e+1,?_,?_,?_⟩)
    ·exact ⟨by omega,by omega,hnx⟩
    ·exact kj [0] [] []
    omega
   have hfin:e=jX te s (a+1):=(Ak hu (by unfold te;rw [hg25,hc31];rfl)).symm.trans het
   refine bm (id (hK5 _ ?_))
   refine aA (aA ?_)
   refine az (σ':=ap 101 [(0,_),(1,_),(4,_),(6,_)] [((4,0),_)] [] []) kp ?_
   refine go 6 ?_
   refine cd rfl (decide_eq_false ab) ?_
   refine go 6 ?_
   refine ai (kr _ _ _ Tryz.underlying9 rfl _ _ (.lit rfl rfl) (.lit rfl rfl) ab ab rfl) ?_
   refine go 4 ?_
   refine aq ?_
   subst hte;subst hfin
   exact kI (.inr rfl) rfl (.cellA aa rfl rfl rfl) (.tmp iH) (Le.out [] [] (.tup rfl lz) rfl rfl rfl trivial trivial)
  have hfin:e=jX te s (a+1):=(wg ab).symm.trans het
  refine go 11 ?_
  refine am (hK7 _ ?_)
  refine cd rfl rfl (bm (id (hK5 _ ?_)))
  refine aA (aA ?_)
  refine az (σ':=ap 101 [(0,_),(1,_),(4,_),(6,_)] [((4,0),_)] [] []) kp ?_
  refine go 6 ?_
  refine cd rfl (decide_eq_false ab) ?_
  refine go 6 ?_
  refine ai (kr _ _ _ Tryz.underlying9 rfl _ _ (.lit rfl rfl) (.lit rfl rfl) ab ab rfl) ?_
  refine go 4 ?_
  refine aq ?_
  subst hte;subst hfin
  exact kI (.inr rfl) rfl (.cellA aa rfl rfl rfl) (.tmp iH) (Le.out [] [] (.tup rfl lz) rfl rfl rfl trivial trivial)
 have hlb:=hc15
 refine cX (aA (aH (so rfl (bE rfl (ai (kJ _ _ Tryz.underlying9 rfl rfl (by assumption)) ?_)))))
 refine ai (au aa al (lD b) rfl rfl) ?_
 refine aj (aD rfl (fun hc48=> ?_) (fun hc48=> ?_))
 ·obtain ⟨htd,htv,hte⟩:=tT hb hlb hc48 ht
  refine ax fun K16 hK16=> ?_
  refine aN ?_
  refine aX (α:=Nat) (fun e=> a+1≤e∧e≤s.length∧jX fz s e=jX fz s (a+1)) 101 [(0,_),(1,_),(4,_)] [((4,0),_)] (fun e=> [(6, .v (.int .i64 (e:Int)))]) (fun e=> []) [] [] (fun e=> s.length - e) (a+1) ?_ (kj [0] [] []) ?_
  ·exact ⟨Nat.le_refl _,by omega,rfl⟩
  intro e he
  obtain ⟨he1,he2,het⟩:=he
  refine ax fun K17 hK17=> ?_
  refine ax fun K18 hK18=> ?_
  refine go 6 ?_
  refine dn (fun hg53=> ?_) (fun hg53=> ?_)
  ·obtain ⟨u,hu⟩:=jy (s:=s) (a:=e) ab
   refine go 2 ?_
   refine aZ rfl rfl (kJ _ _ Tryz.underlying9 rfl rfl (by assumption)) ?_
   refine aZ rfl rfl (au aa al (lD u) rfl rfl) ?_
   refine go 1 ?_
   refine am (hK18 _ ?_)
   refine aD rfl (fun hc58=> ?_) (fun hc58=> ?_)
   ·have hnx:jX fz s (e+1)=jX fz s (a+1):=(rT hu hc58).symm.trans het
    refine aU (hK17 _ ?_)
    refine go 5 ?_
    refine am (⟨e+1,?_,?_,?_⟩)
    ·exact ⟨by omega,by omega,hnx⟩
    ·exact kj [0] [] []
    omega
   have hfin:e=jX fz s (a+1):=(Ak hu hc58).symm.trans het
   refine bm (id (hK16 _ ?_))
   refine aH (so rfl (bE rfl (bE rfl (ai (kr _ _ _ Tryz.underlying9 rfl _ _ (.lit rfl rfl) (.lit rfl rfl) ab ab rfl) ?_))))
   refine ai (au aa al (pi ((s.drop a).take (e - a)) (by simp;omega) (by rw [hfin];exact htd) (by rw [hfin];exact htv)) rfl rfl) ?_
   refine bF rfl (aj (aA (aA ?_)))
   refine az (σ':=ap 101 [(0,_),(1,_),(4,_),(6,_),(7,_)] [((4,0),_)] [] []) kp ?_
   refine go 4 ?_
   refine cd rfl (decide_eq_false ab) ?_
   refine go 6 ?_
   refine ai (kr _ _ _ Tryz.underlying9 rfl _ _ (.lit rfl rfl) (.lit rfl rfl) ab ab rfl) ?_
   refine go 5 ?_
   refine aq ?_
   subst hte;subst hfin
   exact kI (.inr rfl) rfl (.cellA aa rfl rfl rfl) (.tmp iH) (Le.out [] [] (.tup rfl lz) rfl rfl rfl trivial trivial)
  have hfin:e=jX fz s (a+1):=(wg ab).symm.trans het
  refine go 5 ?_
  refine am (hK18 _ ?_)
  refine cd rfl rfl (bm (id (hK16 _ ?_)))
  refine aH (so rfl (bE rfl (bE rfl (ai (kr _ _ _ Tryz.underlying9 rfl _ _ (.lit rfl rfl) (.lit rfl rfl) ab ab rfl) ?_))))
  refine ai (au aa al (pi ((s.drop a).take (e - a)) (by simp;omega) (by rw [hfin];exact htd) (by rw [hfin];exact htv)) rfl rfl) ?_
  refine bF rfl (aj (aA (aA ?_)))
  refine az (σ':=ap 101 [(0,_),(1,_),(4,_),(6,_),(7,_)] [((4,0),_)] [] []) kp ?_
  refine go 4 ?_
  refine cd rfl (decide_eq_false ab) ?_
  refine go 6 ?_
  refine ai (kr _ _ _ Tryz.underlying9 rfl _ _ (.lit rfl rfl) (.lit rfl rfl) ab ab rfl) ?_
  refine go 5 ?_
  refine aq ?_
  subst hte;subst hfin
  exact kI (.inr rfl) rfl (.cellA aa rfl rfl rfl) (.tmp iH) (Le.out [] [] (.tup rfl lz) rfl rfl rfl trivial trivial)
 have hsy:=uf hb hlb hc48 ht
 refine go 8 ?_
 refine ai (vr _ _ rfl rfl rfl) (ai (kr _ _ _ Tryz.underlying9 rfl a (min (a+2) s.length) (.lit rfl rfl) (.lit rfl ab) ab ab (yA ha)) ?_)
 refine sM rfl (aj (aA (aA ?_)))
 refine az (σ':=ap 101 [(0,_),(1,_),(4,_),(6,_),(8,_)] [((4,0),_)] [] []) kp ?_
 refine go 3 ?_
 refine ai (au aa al (pw DY 6 rfl ab ((s.drop a).take 2)) rfl rfl) ?_
 refine aj (aD rfl (fun hc86=> ?_) (fun hc86=> ?_))
 ·have hte:t=⟨3,a,(s.drop a).take 2,0⟩:=hsy.elim (·.2) fun h=> absurd hc86 h.1
  refine go 7 ?_
  refine aq ?_
  subst hte
  exact kI (.inr rfl) rfl (.cellA aa rfl rfl rfl) (.tmp iH) (Le.out [] [] (.tup rfl lz) rfl rfl rfl trivial trivial)
 obtain ⟨_,hs1,hte⟩:=hsy.resolve_left fun h=> hc86 h.1
 refine go 5 ?_
 refine ai (kr _ _ _ Tryz.underlying9 rfl a (a+1) (.lit rfl rfl) (.lit rfl rfl) ab ab (by rw [Nat.add_sub_cancel_left])) ?_
 refine go 6 ?_
 refine ai (au aa al (pw FU 16 rfl ab ((s.drop a).take 1)) rfl rfl) ?_
 refine aj (dH rfl (decide_eq_true hs1) ?_)
 refine go 7 ?_
 refine aq ?_
 subst hte
 exact kI (.inr rfl) rfl (.cellA aa rfl rfl rfl) (.tmp iH) (Le.out [] [] (.tup rfl lz) rfl rfl rfl trivial trivial)
theorem lO {f:Nat} {s:Tx} {a:Nat} {l:List Tk} (h:mx (f+1) s a=some l):(s.length≤a∧l=[⟨0,s.length,[],0⟩])∨(a < s.length∧ ∃ t m,qm (s.drop a) a=some t∧mx f s (jR s (a+t.t.length) false)=some m∧l=t::m):=by
 unfold mx at h
 split at h
 ·exact .inl ⟨by assumption,(Option.some.inj h).symm⟩
 split at h
 ·cases h
 split at h
 ·cases h
 rename_i t ht _ m hm
 exact .inr ⟨by omega,t,m,ht,hm,(Option.some.inj h).symm⟩
theorem tq {s:Tx} {a:Nat} {t:Tk} (ha:a < s.length) (h:qm (s.drop a) a=some t):0 < t.t.length∧a+t.t.length≤s.length:=by
 obtain ⟨b,hb⟩:=jy ha
 have key: ∀ k,0 < k→0 < ((s.drop a).take k).length∧a+((s.drop a).take k).length≤s.length:=fun k hk=> by rw [List.length_take,List.length_drop];omega
 cases h1:mT b with
 | true=> obtain ⟨_,rfl⟩:=qx hb h1 h;exact key _ (by have:=rU (p:=te) (s:=s) (a:=a+1) ab;omega)
 | false=>
  cases h2:fz b with
  | true=> obtain ⟨_,_,rfl⟩:=tT hb h1 h2 h;exact key _ (by have:=rU (p:=fz) (s:=s) (a:=a+1) ab;omega)
  | false=>
   rcases uf hb h1 h2 h with ⟨_,rfl⟩ | ⟨_,_,rfl⟩
   ·exact key _ ab
   exact key _ ab
def Hh (s:Tx) (l:List Tk) (z:Nat×List Tk):Prop:=z.1≤s.length∧z.2.length≤z.1∧ ∃ f m,mx f s z.1=some m∧l=z.2++m
theorem tK (s:Tx) (h1:s.length≤100000) (l:List Tk) (hl:CK s=some l):
  Spec Tryz.prog 159 (aQ [.v (bt s)] []) (aG (.tup [.sl l.length (rP l), .v (.int .i64 0), .v (.int .i64 0)]) []):=by
 have hs0:=uF (s:=s) (a:=0) (Nat.zero_le _) false
 refine Spec.ofN Tryz.func159 rfl Tryz.ntmps159 rfl ?_
 refine aH (ai (bg _ fg) (bF rfl (bF rfl (aj (aH (ai (pN (5,0) _ 225 4 rfl rfl) ?_))))))
 refine aj (aH (so rfl (ai (au aa al (qU s 0 h1 (Nat.zero_le _)) rfl rfl) ?_)))
 refine bF rfl (aj (ax fun K4 hK4=> ?_))
 refine aN ?_
 refine aX (α:=Nat×List Tk) (fun z=> Hh s l z) 42 [(0,_)] [] (fun z=> [(6, .v (.int .i64 (z.1:Int))),(5, .ref (5,0) 0 z.2.length)]) (fun z=> [((5,0), .row 225 4 (rP z.2))]) [] [] (fun z=> s.length - z.1) (jR s 0 false,[]) ?_ (kj [2] [] []) ?_
 ·exact ⟨hs0.2,Nat.zero_le _,s.length+1,l,by rw [← hl];unfold CK jR;rw [List.drop_zero,Nat.zero_add],rfl⟩
 intro z hz
 obtain ⟨hz1,hz2,f,m,hf,hlm⟩:=hz
 obtain ⟨f,rfl⟩: ∃ g,f=g+1:=by cases f with | zero=> (simp [mx] at hf) | succ g=> exact ⟨g,rfl⟩
 refine ax fun K5 hK5=> ?_
 refine go 6 ?_
 refine aD rfl (fun hc14=> ?_) (fun hc14=> ?_)
 ·obtain ⟨_,t,m',ht,hm',hm⟩:=(lO hf).resolve_left fun h=> by omega
  obtain ⟨htl,hta⟩:=tq ab ht
  have hsk:=uF (s:=s) (a:=z.1+t.t.length) hta false
  have hlen:(z.2++[t]).length=z.2.length+1:=by simp
  refine aU (hK5 _ ?_)
  refine aN (aH (so rfl (bE rfl (ai (au aa al (vo s z.1 h1 ab t ht) rfl rfl) ?_))))
  refine go 14 ?_
  refine aA ?_
  refine az (σ':=ap 42 [(0,_),(5,_),(6,_),(7,_)] [((5,0),_),((7,0),_)] [] []) kp ?_
  refine go 4 ?_
  refine ai (cG (28,0) _ _ aa rfl rfl (bl _).symm (.sl rfl) ab rfl (ua _ _) hlen.symm) ?_
  refine go 9 ?_
  refine ai (au aa al (qU s (z.1+t.t.length) h1 hta) rfl rfl) ?_
  refine bF rfl (am (⟨(jR s (z.1+t.t.length) false,z.2++[t]),?_,?_,?_⟩))
  ·exact ⟨hsk.2,by simp only;omega,f,m',hm',by rw [hlm,hm];simp⟩
  ·refine Le.mkJ [((5,0),(28,0))] [] rfl ?_ ?_ trivial trivial ?_
   ·exact ⟨(by repeat' (exact Lv.v)),(eN ag),(eH rfl ag),trivial⟩
   ·exact ⟨(im rfl rfl rfl ag),trivial⟩
   kernel_rfl
  simp only;omega
 obtain ⟨_,hm⟩:=(lO hf).resolve_right fun h=> by omega
 have hlen:(z.2++[(⟨0,s.length,[],0⟩:Tk)]).length=z.2.length+1:=by simp
 rw [hm] at hlm;subst hlm
 refine bm (id (hK4 _ ?_))
 refine go 6 ?_
 refine ai (cG (41,0) _ _ aa rfl rfl (bl _).symm (.sl rfl) ab rfl (ua _ ⟨0,s.length,[],0⟩) hlen.symm) ?_
 exact gF rfl (bF rfl (bF rfl (aj (aq (Dm (.inr rfl) rfl (.tmp qj) (.tmp iH) (.tmp iH) (Le.out [] [(41,0)] (.tup rfl (aB (iO rfl rfl (bl _).symm rfl) lz)) rfl rfl rfl tr trivial))))))
end Go.Proofs.YtmjnackchaahbaaGreat

set_option maxHeartbeats 2000000
namespace Go.Proofs.YtmjnackchaahbaaGreat
open Go.RowKit

theorem bY (l:List Tx) (n:Nat) (hn:l.length=n) (h1:n≤1000) (t:Tx):Spec Tryz.prog 199 (aQ [.sl n (dh l), .v (bt t)] []) (aG (.v (.bool (decide (t∈l)))) []):=by
 refine Spec.ofN Tryz.func199 rfl Tryz.ntmps199 rfl ?_
 refine aH (gP rfl (aj (ax fun K2 hK2=> ?_)))
 refine aH (bF rfl (aj (aN ?_)))
 refine aX (α:=Nat) (fun k=> k≤n∧t∉l.take k) 18 [(0,_),(1,_)] [] (fun k=> [(5, .v (.int .i64 (k:Int)))]) (fun k=> []) [] [] (fun k=> n - k) 0 ?_ (kj [] [] []) ?_
 ·exact ⟨Nat.zero_le _,by simp⟩
 intro k hk
 obtain ⟨hk,hnt⟩:=hk
 refine ax fun K4 hK4=> ?_
 refine go 6 ?_
 refine aD rfl (fun hc9=> ?_) (fun hc9=> ?_)
 ·refine aU (hK4 _ ?_)
  refine aA (aN (aH (jV rfl (bE rfl (ai (aL _ _ aa rfl rfl _ rfl ab (by (simp only [aM,aW,aV,bj,bl];omega)) (by exact Nat.mul_one _)) ?_)))))
  refine ai (bh _ aa rfl (by exact ew _ _ ab) rfl) ?_
  refine so rfl (ai (bJ _ _ Tryz.underlying9 rfl rfl rfl) (aj (aD rfl (fun hc17=> ?_) (fun hc17=> ?_))))
  ·refine aH (gP rfl (aj (aq (kV rfl rfl ?_))))
   exact decide_eq_true (hc17 ▸ jo ab)
  refine go 5 ?_
  refine am (⟨k+1,?_,?_,?_⟩)
  ·exact ⟨by omega,jI hnt ab hc17⟩
  ·exact kj [] [] []
  omega
 have hall:t∉l:=by rwa [List.take_of_length_le ab] at hnt
 refine bm (id (hK2 _ ?_))
 refine aH (gP rfl (aj (aq (kV rfl rfl ?_))))
 exact decide_eq_false hall
theorem el:Spec Tryz.prog 205 (aQ [] []) (aG (.sl 9 (dh bltT)) []):=by
 refine Spec.ofN Tryz.func205 rfl Tryz.ntmps205 rfl ?_
 refine aH (ai (bg _ fg) (go 5 ?_))
 exact aq (tY rfl rfl)
theorem li (t:Tx):Spec Tryz.prog 225 (aQ [.v (bt t)] []) (aG (.v (.bool (vP t))) []):=by
 refine Spec.ofN Tryz.func225 rfl Tryz.ntmps225 rfl ?_
 refine aH (gP rfl (aj (aH (ai (au aa (by repeat' (exact cL)) (el) rfl rfl) ?_))))
 refine so rfl (ai (au aa al (bY bltT 9 rfl ab t) rfl rfl) ?_)
 refine HY rfl (dn (fun hg6=> ?_) (fun hg6=> ?_))
 ·refine go 6 ?_
  refine aq (kV rfl rfl ?_)
  unfold vP
  (rw [decide_eq_true hg6];rfl)
 refine go 2 ?_
 refine aZ rfl rfl (au aa al (bY NO 19 rfl ab t) rfl rfl) ?_
 refine go 3 ?_
 refine aq (kV rfl rfl ?_)
 unfold vP
 (rw [decide_eq_false hg6];rfl)
theorem dq {T:List Tk} {i:Nat} (h:i < T.length):bv T i < T.length:=by unfold bv;split <;> omega
abbrev de (T:List Tk) (i:Nat) (N:List Tx):List (ay×Cells):=[((0,9), .box 222 [.sl T.length (rP T), .v (.int .i64 (i:Int)), .v (.int .i64 0), .v (.int .i64 0), .sl N.length (dh N)])]
theorem bw (T:List Tk) (i:Nat) (N:List Tx) (hi:i < T.length):
  Spec Tryz.prog 160 (aE [.ptr (0,9) 0] (de T i N)) (aP (.v (bt (cu T i).t)) (de T i N) [(0,9)] [(0,9)]):=by
 refine Spec.ofNI Tryz.func160 rfl Tryz.ntmps160 rfl ?_
 refine aH (sM rfl (aj (aA (dA 12 [] ?_))))
 refine go 16 ?_
 refine aJ (_,[]) (fun τ=> aL _ _ aa rfl rfl _ rfl ab (by (simp only [aM,aW,aV,bj,bl];omega)) ag) ?_
 refine go 3 ?_
 refine aJ (_,[]) (fun τ=> bh _ aa rfl (by exact lZ _ _ ab) rfl) ?_
 refine go 5 ?_
 exact aq (dm (.inr rfl) rfl (.tmp iH) (Le.outI [] [] .v rfl rfl rfl trivial ob tr rfl))
theorem da (T:List Tk) (i:Nat) (N:List Tx) (hi:i < T.length):
  Spec Tryz.prog 197 (aE [.ptr (0,9) 0] (de T i N)) (aP (.v (.bool (dF T i))) (de T i N) [(0,9)] [(0,9)]):=by
 refine Spec.ofNI Tryz.func197 rfl Tryz.ntmps197 rfl ?_
 refine aH (gP rfl (aj (aA (dA 28 [] ?_))))
 refine go 16 ?_
 refine aJ (_,[]) (fun τ=> aL _ _ aa rfl rfl _ rfl ab (by (simp only [aM,aW,aV,bj,bl];omega)) ag) ?_
 refine go 3 ?_
 refine aJ (_,[]) (fun τ=> bh _ aa rfl (by exact pU _ _ ab) rfl) ?_
 refine go 1 ?_
 refine aJ (_,[]) (fun τ=> ca _ _ rfl rfl rfl) ?_
 refine go 2 ?_
 refine nz (fun hg15=> ?_) (fun hg15=> ?_)
 ·have hr:dF T i= !vP (cu T i).t:=by unfold dF;rw [decide_eq_true ab];rfl
  refine go 17 ?_
  refine eT (_,[]) rfl (fun τ=> rfl) (fun τ=> aL _ _ aa rfl rfl _ rfl ab (by (simp only [aM,aW,aV,bj,bl];omega)) ag) ?_
  refine go 3 ?_
  refine eT (_,[]) rfl (fun τ=> rfl) (fun τ=> bh _ aa rfl (by exact lZ _ _ ab) rfl) ?_
  refine go 1 ?_
  refine eT (_,[]) rfl (fun τ=> rfl) (fun τ=> (au aa al (li (cu T i).t) rfl rfl)) ?_
  refine go 9 ?_
  exact aq (dm (.inr rfl) rfl (.tmp rD) (Le.outI [] [] (qK hr) rfl rfl rfl trivial ob tr rfl))
 have hr:dF T i=false:=by unfold dF;rw [decide_eq_false ab];rfl
 refine go 33 ?_
 exact aq (dm (.inr rfl) rfl (.tmp rD) (Le.outI [] [] (qK hr) rfl rfl rfl trivial ob tr rfl))
theorem bS (T:List Tk) (i:Nat) (N:List Tx) (hi:i < T.length) (hT:T.length≤100000):
  Spec Tryz.prog 196 (aE [.ptr (0,9) 0] (de T i N)) (aP (.tup []) (de T (bv T i) N) [(0,9)] [(0,9)]):=by
 refine Spec.ofNI Tryz.func196 rfl Tryz.ntmps196 rfl ?_
 refine aA (dA 11 [] ?_)
 refine go 24 ?_
 refine aD rfl (fun hc12=> ?_) (fun hc12=> ?_)
 ·have ht:bv T i=i+1:=by unfold bv;rw [if_pos ab]
  refine go 9 ?_
  exact am (rt (.inl rfl) rfl (Le.outI [] [] (.tup rfl bz) rfl rfl rfl trivial ⟨⟨rfl,⟨_,rfl, .box rfl (aB .sl (aB (eN (by rw [ht] <;> omega)) lz))⟩,rfl⟩,trivial⟩ tr rfl))
 have ht:bv T i=i:=by unfold bv;rw [if_neg ab]
 exact aU (rt (.inl rfl) rfl (Le.outI [] [] (.tup rfl bz) rfl rfl rfl trivial ⟨⟨rfl,⟨_,rfl, .box rfl (aB .sl (aB (eN (by rw [ht] <;> omega)) lz))⟩,rfl⟩,trivial⟩ tr rfl))
theorem eK (T:List Tk) (i j:Nat) (N:List Tx) (s:Tx) (hi:i < T.length) (hT:T.length≤100000) (h:fG T s i=some j):
  Spec Tryz.prog 162 (aE [.ptr (0,9) 0, .v (bt s)] (de T i N)) (aP (.tup []) (de T j N) [(0,9)] [(0,9)]):=by
 have ⟨hs,hj⟩:(cu T i).t=s∧bv T i=j:=by
  unfold fG at h
  split at h
  ·exact ⟨by assumption,Option.some.inj h⟩
  cases h
 subst hs
 subst hj
 refine Spec.ofNI Tryz.func162 rfl Tryz.ntmps162 rfl ?_
 refine go 9 ?_
 refine aZ rfl rfl (be aa _ _ ar (bw T i N hi) tr rfl ae (by simp)) ?_
 refine go 1 ?_
 refine aZ rfl rfl (sk (r:=false) _ _ Tryz.underlying9 rfl rfl (by exact bne_self_eq_false _)) ?_
 refine go 12 ?_
 refine az (σ':=ap 28 [(0,_)] [((0,9),_)] [(0,9)] [(0,9)]) kp ?_
 refine an (bN rfl (ai (aF (bS T i N hi hT)) ?_))
 exact am (fw [])
theorem jJ {T:List Tk} {s:Tx} {lv i j:Nat} (h:qM T s lv i=some j):lv≤20∧fG T s i=some j:=by
 unfold qM at h
 split at h
 ·cases h
 rename_i hn
 refine ⟨?_,h⟩
 unfold fG at h
 split at h
 ·rename_i ht
  exact Nat.le_of_not_lt fun hl=> hn ⟨ht,hl⟩
 cases h
theorem ix {T:List Tk} {s:Tx} {i j:Nat} (h:fG T s i=some j) (hi:i < T.length):j < T.length:=by
 unfold fG at h
 split at h
 ·rw [← Option.some.inj h];exact dq hi
 cases h
theorem na (T:List Tk) (i j:Nat) (N:List Tx) (s:Tx) (lv:Nat) (hi:i < T.length) (hT:T.length≤100000) (h:qM T s lv i=some j):
  Spec Tryz.prog 201 (aE [.ptr (0,9) 0, .v (bt s), .v (.int .i64 (lv:Int))] (de T i N)) (aP (.tup []) (de T j N) [(0,9)] [(0,9)]):=by
 obtain ⟨hl,he⟩:=jJ h
 refine Spec.ofNI Tryz.func201 rfl Tryz.ntmps201 rfl ?_
 refine go 9 ?_
 refine aZ rfl rfl (be aa _ _ ar (bw T i N hi) tr rfl ae (by simp)) ?_
 refine go 1 ?_
 refine aZ rfl rfl (bJ _ _ Tryz.underlying9 rfl rfl rfl) (go 2 ?_)
 refine dn (fun hg17=> ?_) (fun hg17=> ?_)
 ·refine go 1 ?_
  refine aZ rfl rfl (du (r:=false) _ _ rfl rfl (decide_eq_false ab)) ?_
  refine go 4 ?_
  refine az (σ':=ap 30 [(0,_),(1,_)] [((0,9),_)] [(0,9)] [(0,9)]) kp ?_
  refine an (bN rfl (so rfl (ai (aF (eK T i j N s hi hT he)) ?_)))
  exact am (fw [])
 refine go 6 ?_
 refine az (σ':=ap 30 [(0,_),(1,_)] [((0,9),_)] [(0,9)] [(0,9)]) kp ?_
 refine an (bN rfl (so rfl (ai (aF (eK T i j N s hi hT he)) ?_)))
 exact am (fw [])
theorem kH (T:List Tk) (i:Nat) (N:List Tx) (most:Nat) (hi:i < T.length) (hT:T.length≤100000) (hm:most≤1000) (r:Nat×Nat) (h:nZ T most i=some r):
  Spec Tryz.prog 200 (aE [.ptr (0,9) 0, .v (.int .i64 (most:Int))] (de T i N)) (aP (.v (.int .i64 (r.1:Int))) (de T r.2 N) [(0,9)] [(0,9)]):=by
 have ⟨h1,h2,h3⟩:(cu T i).k=2∧(cu T i).n≤most∧r=((cu T i).n,bv T i):=by
  unfold nZ at h
  split at h
  ·rename_i hx;exact ⟨hx.1,hx.2,(Option.some.inj h).symm⟩
  cases h
 subst h3
 refine Spec.ofNI Tryz.func200 rfl Tryz.ntmps200 rfl ?_
 refine aH (bF rfl (aj (aA (dA 11 [(5,0)] ?_))))
 refine go 16 ?_
 refine aJ (_,[]) (fun τ=> aL _ _ aa rfl rfl _ rfl ab (by (simp only [aM,aW,aV,bj,bl];omega)) ag) ?_
 refine go 1 ?_
 refine aJ (_,[]) (fun τ=> bu _ aa rfl (by exact mr _ _ hi) rfl) ?_
 refine go 1 ?_
 refine aJ (_,[((5,0),_)]) (fun τ=> eX (5,0) aa rfl rfl) ?_
 refine go 8 ?_
 refine ai (dv _ _ rfl rfl rfl) (aj (cd rfl (by rw [h1];rfl) ?_))
 refine aA ?_
 refine az (σ':=ap 44 [(0,_),(1,_),(5,_)] [((0,9),_),((5,0),_)] [(0,9)] [(0,9)]) kp ?_
 refine go 6 ?_
 refine cd rfl (decide_eq_false ab) ?_
 refine go 13 ?_
 refine ai (aF (bS T i N hi hT)) ?_
 refine go 6 ?_
 exact aq (dm (.inr rfl) rfl (.tmp iH) (Le.outI [] [] .v rfl rfl rfl trivial ob tr rfl))
abbrev EU (T:List Tk) (i:Nat) (N:List Tx):List (ay×Cells):=[((0,9), .box 222 [.sl T.length (rP T), .v (.int .i64 (i:Int)), .v (.int .i64 0), .v (.int .i64 0), .ref (1,9) 0 N.length]),((1,9), .row 9 1 (dh N))]
theorem eb (T:List Tk) (i:Nat) (N:List Tx) (hi:i < T.length):
  Spec Tryz.prog 160 (aE [.ptr (0,9) 0] (EU T i N)) (aP (.v (bt (cu T i).t)) (EU T i N) [(0,9),(1,9)] [(0,9),(1,9)]):=by
 refine Spec.ofNI Tryz.func160 rfl Tryz.ntmps160 rfl ?_
 refine aH (sM rfl (aj (aA (dA 12 [] ?_))))
 refine go 16 ?_
 refine aJ (_,[]) (fun τ=> aL _ _ aa rfl rfl _ rfl ab (by (simp only [aM,aW,aV,bj,bl];omega)) ag) ?_
 refine go 3 ?_
 refine aJ (_,[]) (fun τ=> bh _ aa rfl (by exact lZ _ _ ab) rfl) ?_
 refine go 5 ?_
 exact aq (dm (.inr rfl) rfl (.tmp iH) (Le.outI [] [] .v rfl rfl rfl trivial ob tr rfl))
theorem vW (T:List Tk) (i:Nat) (N:List Tx) (hi:i < T.length):
  Spec Tryz.prog 197 (aE [.ptr (0,9) 0] (EU T i N)) (aP (.v (.bool (dF T i))) (EU T i N) [(0,9),(1,9)] [(0,9),(1,9)]):=by
 refine Spec.ofNI Tryz.func197 rfl Tryz.ntmps197 rfl ?_
 refine aH (gP rfl (aj (aA (dA 28 [] ?_))))
 refine go 16 ?_
 refine aJ (_,[]) (fun τ=> aL _ _ aa rfl rfl _ rfl ab (by (simp only [aM,aW,aV,bj,bl];omega)) ag) ?_
 refine go 3 ?_
 refine aJ (_,[]) (fun τ=> bh _ aa rfl (by exact pU _ _ ab) rfl) ?_
 refine go 1 ?_
 refine aJ (_,[]) (fun τ=> ca _ _ rfl rfl rfl) ?_
 refine go 2 ?_
 refine nz (fun hg15=> ?_) (fun hg15=> ?_)
 ·have hr:dF T i= !vP (cu T i).t:=by unfold dF;rw [decide_eq_true ab];rfl
  refine go 17 ?_
  refine eT (_,[]) rfl (fun τ=> rfl) (fun τ=> aL _ _ aa rfl rfl _ rfl ab (by (simp only [aM,aW,aV,bj,bl];omega)) ag) ?_
  refine go 3 ?_
  refine eT (_,[]) rfl (fun τ=> rfl) (fun τ=> bh _ aa rfl (by exact lZ _ _ ab) rfl) ?_
  refine go 1 ?_
  refine eT (_,[]) rfl (fun τ=> rfl) (fun τ=> (au aa al (li (cu T i).t) rfl rfl)) ?_
  refine go 9 ?_
  exact aq (dm (.inr rfl) rfl (.tmp rD) (Le.outI [] [] (qK hr) rfl rfl rfl trivial ob tr rfl))
 have hr:dF T i=false:=by unfold dF;rw [decide_eq_false ab];rfl
 refine go 33 ?_
 exact aq (dm (.inr rfl) rfl (.tmp rD) (Le.outI [] [] (qK hr) rfl rfl rfl trivial ob tr rfl))
theorem jN (T:List Tk) (i:Nat) (N:List Tx) (hi:i < T.length) (hT:T.length≤100000):
  Spec Tryz.prog 196 (aE [.ptr (0,9) 0] (EU T i N)) (aP (.tup []) (EU T (bv T i) N) [(0,9),(1,9)] [(0,9),(1,9)]):=by
 refine Spec.ofNI Tryz.func196 rfl Tryz.ntmps196 rfl ?_
 refine aA (dA 11 [] ?_)
 refine go 24 ?_
 refine aD rfl (fun hc12=> ?_) (fun hc12=> ?_)
 ·have ht:bv T i=i+1:=by unfold bv;rw [if_pos ab]
  refine go 9 ?_
  exact am (rt (.inl rfl) rfl (Le.outI [] [] (.tup rfl bz) rfl rfl rfl trivial ⟨⟨rfl,⟨_,rfl, .box rfl (aB .sl (aB (eN (by rw [ht] <;> omega)) lz))⟩,rfl⟩,⟨rfl,⟨_,rfl, .rowE rfl⟩,rfl⟩,trivial⟩ tr rfl))
 have ht:bv T i=i:=by unfold bv;rw [if_neg ab]
 exact aU (rt (.inl rfl) rfl (Le.outI [] [] (.tup rfl bz) rfl rfl rfl trivial ⟨⟨rfl,⟨_,rfl, .box rfl (aB .sl (aB (eN (by rw [ht] <;> omega)) lz))⟩,rfl⟩,⟨rfl,⟨_,rfl, .rowE rfl⟩,rfl⟩,trivial⟩ tr rfl))
theorem sA (T:List Tk) (i j:Nat) (N:List Tx) (s:Tx) (hi:i < T.length) (hT:T.length≤100000) (h:fG T s i=some j):
  Spec Tryz.prog 162 (aE [.ptr (0,9) 0, .v (bt s)] (EU T i N)) (aP (.tup []) (EU T j N) [(0,9),(1,9)] [(0,9),(1,9)]):=by
 have ⟨hs,hj⟩:(cu T i).t=s∧bv T i=j:=by
  unfold fG at h
  split at h
  ·exact ⟨by assumption,Option.some.inj h⟩
  cases h
 subst hs
 subst hj
 refine Spec.ofNI Tryz.func162 rfl Tryz.ntmps162 rfl ?_
 refine go 9 ?_
 refine aZ rfl rfl (be aa _ _ ar (eb T i N hi) tr rfl ae (by simp)) ?_
 refine go 1 ?_
 refine aZ rfl rfl (sk (r:=false) _ _ Tryz.underlying9 rfl rfl (by exact bne_self_eq_false _)) ?_
 refine go 12 ?_
 refine az (σ':=ap 28 [(0,_)] [((0,9),_),((1,9),_)] [(0,9),(1,9)] [(0,9),(1,9)]) kp ?_
 refine an (bN rfl (ai (cC aa [] ar (jN T i N hi hT) ob tr ae) ?_))
 exact am (fw [])
end Go.Proofs.YtmjnackchaahbaaGreat

set_option maxHeartbeats 2000000
namespace Go.Proofs.YtmjnackchaahbaaGreat
open Go.RowKit

abbrev dJ (d:Nd):AV:= .agg [.v (.int .i64 (d.k:Int)), .v (.int .i64 (d.n:Int)), .v (bt d.s), .sl d.kn d.kids]
abbrev PO (T:List Tk) (N:List Tx) (r:Nd×Nat):St:=aP (dJ r.1) (de T r.2 N) [(0,9)] [(0,9)]
structure PE (T:List Tk) (N:List Tx) (f:Nat):Prop where
 expr: ∀ lv pr i r,lv≤20→1≤pr∧pr≤7→i < T.length→fH T f lv pr i=some r→r.2 < T.length∧Spec Tryz.prog 226 (aE [.ptr (0,9) 0, .v (.int .i64 (lv:Int)), .v (.int .i64 (pr:Int))] (de T i N)) (PO T N r)
 un: ∀ s lv pr i r,lv≤20→1≤pr∧pr≤7→i < T.length→HH T f s lv pr i=some r→r.2 < T.length∧Spec Tryz.prog 235 (aE [.ptr (0,9) 0, .v (bt s), .v (.int .i64 (lv:Int)), .v (.int .i64 (pr:Int))] (de T i N)) (PO T N r)
 bin: ∀ lv pr i r,lv≤20→(1≤pr∧pr≤6∧pr≠3)→i < T.length→yC T f lv pr i=some r→r.2 < T.length∧Spec Tryz.prog 236 (aE [.ptr (0,9) 0, .v (.int .i64 (lv:Int)), .v (.int .i64 (pr:Int))] (de T i N)) (PO T N r)
 nest: ∀ lv i r,lv≤20→i < T.length→qF T f lv i=some r→r.2 < T.length∧Spec Tryz.prog 240 (aE [.ptr (0,9) 0, .v (.int .i64 (lv:Int))] (de T i N)) (PO T N r)
 prim: ∀ lv i r,lv≤20→i < T.length→sZ T f lv i=some r→r.2 < T.length∧Spec Tryz.prog 237 (aE [.ptr (0,9) 0, .v (.int .i64 (lv:Int))] (de T i N)) (PO T N r)
section
variable {T:List Tk} {N:List Tx}
theorem yp (f:Nat) (ih:PE T N f) (lv pr i:Nat) (r:Nd×Nat) (hl:lv≤20) (hp:1≤pr∧pr≤7) (hi:i < T.length) (h:fH T (f+1) lv pr i=some r):
  r.2 < T.length∧Spec Tryz.prog 226 (aE [.ptr (0,9) 0, .v (.int .i64 (lv:Int)), .v (.int .i64 (pr:Int))] (de T i N)) (PO T N r):=by
 unfold fH at h
 by_cases h1:pr=3∧(cu T i).t=[33]
 ·rw [if_pos h1] at h
  obtain ⟨ha,hb⟩:=ih.un _ _ _ _ _ hl ab hi h
  refine ⟨ha,?_⟩
  obtain ⟨rfl,h1⟩:=h1
  refine Spec.ofNI Tryz.func226 rfl Tryz.ntmps226 rfl ?_
  refine go 15 ?_
  refine ai (be aa _ _ ar (bw T i N hi) tr rfl ae (by simp)) ?_
  refine go 8 ?_
  refine aZ rfl rfl (bJ (r:=true) _ _ Tryz.underlying9 rfl rfl (by rw [h1];rfl)) ?_
  refine go 3 ?_
  refine aA ?_
  refine az (σ':=ap 50 [(0,_),(1,_),(6,_),(7,_)] [((0,9),_),((6,0),_)] [(0,9)] [(0,9)]) kp ?_
  refine an (bN rfl (so rfl (bE rfl (ai (aF (hb)) (go 2 ?_)))))
  exact aq (dR [])
 rw [if_neg h1] at h
 by_cases h2:pr=3
 ·rw [if_pos h2] at h
  obtain ⟨ha,hb⟩:=ih.bin _ _ _ _ hl ab hi h
  refine ⟨ha,?_⟩
  subst h2
  have h1:(cu T i).t≠[33]:=fun e=> h1 ⟨rfl,e⟩
  refine Spec.ofNI Tryz.func226 rfl Tryz.ntmps226 rfl ?_
  refine go 15 ?_
  refine ai (be aa _ _ ar (bw T i N hi) tr rfl ae (by simp)) ?_
  refine go 8 ?_
  refine aZ rfl rfl (bJ (r:=false) _ _ Tryz.underlying9 rfl rfl (beq_eq_false_iff_ne.2 h1)) ?_
  refine go 5 ?_
  refine aA ?_
  refine az (σ':=ap 50 [(0,_),(1,_),(2,_),(6,_),(7,_)] [((0,9),_),((6,0),_)] [(0,9)] [(0,9)]) kp ?_
  refine go 8 ?_
  refine ai (aF (hb)) (go 2 ?_)
  exact aq (dR [])
 rw [if_neg h2] at h
 by_cases h3:pr=7∧(cu T i).t=[45]
 ·rw [if_pos h3] at h
  obtain ⟨ha,hb⟩:=ih.un _ _ _ _ _ hl ab hi h
  refine ⟨ha,?_⟩
  obtain ⟨rfl,h3⟩:=h3
  refine Spec.ofNI Tryz.func226 rfl Tryz.ntmps226 rfl ?_
  refine go 15 ?_
  refine ai (be aa _ _ ar (bw T i N hi) tr rfl ae (by simp)) ?_
  refine go 14 ?_
  refine aA ?_
  refine az (σ':=ap 50 [(0,_),(1,_),(2,_),(6,_),(7,_)] [((0,9),_),((6,0),_)] [(0,9)] [(0,9)]) kp ?_
  refine go 12 ?_
  refine aZ rfl rfl (bJ (r:=true) _ _ Tryz.underlying9 rfl rfl (by rw [h3];rfl)) ?_
  refine go 7 ?_
  refine ai (aF (hb)) (go 2 ?_)
  exact aq (dR [])
 rw [if_neg h3] at h
 by_cases h4:pr=7
 ·rw [if_pos h4] at h
  obtain ⟨ha,hb⟩:=ih.prim _ _ _ hl hi h
  refine ⟨ha,?_⟩
  subst h4
  have h3:(cu T i).t≠[45]:=fun e=> h3 ⟨rfl,e⟩
  refine Spec.ofNI Tryz.func226 rfl Tryz.ntmps226 rfl ?_
  refine go 15 ?_
  refine ai (be aa _ _ ar (bw T i N hi) tr rfl ae (by simp)) ?_
  refine go 14 ?_
  refine aA ?_
  refine az (σ':=ap 50 [(0,_),(1,_),(2,_),(6,_),(7,_)] [((0,9),_),((6,0),_)] [(0,9)] [(0,9)]) kp ?_
  refine go 12 ?_
  refine aZ rfl rfl (bJ (r:=false) _ _ Tryz.underlying9 rfl rfl (beq_eq_false_iff_ne.2 h3)) ?_
  refine go 10 ?_
  refine ax fun K13 hK13=> ?_
  refine an (bN rfl (bE rfl (ai (aF (hb)) (HG rfl rfl rfl rfl rfl rfl (am (hK13 _ ?_))))))
  exact aq (dR [])
 rw [if_neg h4] at h
 obtain ⟨ha,hb⟩:=ih.bin _ _ _ _ hl ab hi h
 refine ⟨ha,?_⟩
 refine Spec.ofNI Tryz.func226 rfl Tryz.ntmps226 rfl ?_
 refine go 15 ?_
 refine ai (be aa _ _ ar (bw T i N hi) tr rfl ae (by simp)) ?_
 refine sM rfl (aj (aA (aH (bE rfl (AP rfl rfl (beq_eq_false_iff_ne.2 ab) ?_)))))
 refine go 8 ?_
 refine aA ?_
 refine az (σ':=ap 50 [(0,_),(1,_),(2,_),(6,_),(7,_)] [((0,9),_),((6,0),_)] [(0,9)] [(0,9)]) kp ?_
 refine an (bE rfl (AP rfl rfl (beq_eq_false_iff_ne.2 ab) ?_))
 refine go 6 ?_
 refine AP rfl rfl (beq_eq_false_iff_ne.2 ab) ?_
 refine go 10 ?_
 refine AP rfl rfl (beq_eq_false_iff_ne.2 ab) ?_
 refine aj (cd rfl rfl (cX (ax fun K13 hK13=> ?_)))
 refine an (bN rfl (bE rfl (bE rfl (ai (aF (hb)) (HG rfl rfl rfl rfl rfl rfl (am (hK13 _ ?_)))))))
 exact aq (dR [])
theorem CF (hT:T.length≤100000) (f:Nat) (ih:PE T N f) (s:Tx) (lv pr i:Nat) (r:Nd×Nat) (hl:lv≤20) (hp:1≤pr∧pr≤7) (hi:i < T.length) (h:HH T (f+1) s lv pr i=some r):
  r.2 < T.length∧Spec Tryz.prog 235 (aE [.ptr (0,9) 0, .v (bt s), .v (.int .i64 (lv:Int)), .v (.int .i64 (pr:Int))] (de T i N)) (PO T N r):=by
 unfold HH at h
 simp only [Option.bind_eq_bind,Option.bind_eq_some_iff,Option.pure_def,Option.some.injEq] at h
 obtain ⟨j,hj,⟨d,j2⟩,hd,rfl⟩:=h
 have ho:=jJ hj
 have hjl:=ix ho.2 hi
 obtain ⟨ha,hb⟩:=ih.expr _ _ _ _ ho.1 hp hjl hd
 have hopen:=na T i j N s (lv+1) hi hT hj
 refine ⟨ha,?_⟩
 refine Spec.ofNI Tryz.func235 rfl Tryz.ntmps235 rfl ?_
 refine go 8 ?_
 refine ai (aF (hopen)) (aj (ax fun K3 hK3=> ?_))
 refine go 5 ?_
 refine ai (aF (hb)) (go 2 ?_)
 refine am (hK3 _ ?_)
 refine go 7 ?_
 exact aq (dR [])
theorem xP (hT:T.length≤100000) (f:Nat) (ih:PE T N f) (lv i:Nat) (r:Nd×Nat) (hl:lv≤20) (hi:i < T.length) (h:qF T (f+1) lv i=some r):
  r.2 < T.length∧Spec Tryz.prog 240 (aE [.ptr (0,9) 0, .v (.int .i64 (lv:Int))] (de T i N)) (PO T N r):=by
 unfold qF at h
 simp only [Option.bind_eq_bind,Option.bind_eq_some_iff,Option.pure_def,Option.some.injEq] at h
 obtain ⟨j,hj,⟨d,j2⟩,hd,j3,hj3,rfl⟩:=h
 have ho:=jJ hj
 have hjl:=ix ho.2 hi
 obtain ⟨ha,hb⟩:=ih.expr _ _ _ _ ho.1 ab hjl hd
 have hopen:=na T i j N [40] (lv+1) hi hT hj
 have hexp:=eK T j2 j3 N [41] ha hT hj3
 refine ⟨ix hj3 ha,?_⟩
 refine Spec.ofNI Tryz.func240 rfl Tryz.ntmps240 rfl ?_
 refine go 7 ?_
 refine ai (aF (hopen)) (aj (ax fun K3 hK3=> ?_))
 refine go 4 ?_
 refine ai (aF (hb)) (go 2 ?_)
 refine am (hK3 _ ?_)
 refine ax fun K4 hK4=> ?_
 refine an (bN rfl (ai (aF (hexp)) (am (hK4 _ ?_))))
 refine go 4 ?_
 exact aq (dR [])
theorem xe (hT:T.length≤100000) (f:Nat) (ih:PE T N f) (lv i:Nat) (r:Nd×Nat) (hl:lv≤20) (hi:i < T.length) (h:sZ T (f+1) lv i=some r):
  r.2 < T.length∧Spec Tryz.prog 237 (aE [.ptr (0,9) 0, .v (.int .i64 (lv:Int))] (de T i N)) (PO T N r):=by
 have htl:=dq hi
 have htake:=bS T i N hi hT
 unfold sZ at h
 simp only at h
 by_cases h1:(cu T i).t=[40]
 ·rw [if_pos h1] at h
  obtain ⟨ha,hb⟩:=ih.nest _ _ _ hl hi h
  refine ⟨ha,?_⟩
  refine Spec.ofNI Tryz.func237 rfl Tryz.ntmps237 rfl ?_
  refine go 3 ?_
  refine aA (dA 11 [(5,0)] ?_)
  refine go 16 ?_
  refine aJ (_,[]) (fun τ=> aL _ _ aa rfl rfl _ rfl ab (by (simp only [aM,aW,aV,bj,bl];omega)) ag) ?_
  refine go 1 ?_
  refine aJ (_,[]) (fun τ=> bu _ aa rfl (by exact mr _ _ hi) rfl) ?_
  refine go 1 ?_
  refine aJ (_,[((5,0),_)]) (fun τ=> eX (5,0) aa rfl rfl) ?_
  refine go 8 ?_
  refine ai (bJ (r:=true) _ _ Tryz.underlying9 rfl rfl (by rw [h1];rfl)) ?_
  refine aj (dH rfl rfl (aA ?_))
  refine az (σ':=ap 72 [(0,_),(1,_),(4,_)] [((0,9),_),((4,0),_)] [(0,9)] [(0,9)]) kp ?_
  refine an (bN rfl (bE rfl (ai (aF (hb)) (go 2 ?_))))
  exact aq (dR [])
 rw [if_neg h1] at h
 by_cases h2:(cu T i).t=zM
 ·rw [if_pos h2] at h
  simp only [Option.bind_eq_bind,Option.bind_eq_some_iff,Option.pure_def,Option.some.injEq] at h
  obtain ⟨⟨d,j⟩,hd,rfl⟩:=h
  obtain ⟨ha,hb⟩:=ih.nest _ _ _ hl htl hd
  refine ⟨ha,?_⟩
  refine Spec.ofNI Tryz.func237 rfl Tryz.ntmps237 rfl ?_
  refine go 3 ?_
  refine aA (dA 11 [(5,0)] ?_)
  refine go 16 ?_
  refine aJ (_,[]) (fun τ=> aL _ _ aa rfl rfl _ rfl ab (by (simp only [aM,aW,aV,bj,bl];omega)) ag) ?_
  refine go 1 ?_
  refine aJ (_,[]) (fun τ=> bu _ aa rfl (by exact mr _ _ hi) rfl) ?_
  refine go 1 ?_
  refine aJ (_,[((5,0),_)]) (fun τ=> eX (5,0) aa rfl rfl) ?_
  refine go 8 ?_
  refine ai (bJ (r:=false) _ _ Tryz.underlying9 rfl rfl (beq_eq_false_iff_ne.2 h1)) ?_
  refine aj (cd rfl rfl (cX (aA (aA ?_))))
  refine az (σ':=ap 72 [(0,_),(1,_),(4,_),(5,_)] [((0,9),_),((4,0),_),((5,0),_)] [(0,9)] [(0,9)]) kp ?_
  refine go 3 ?_
  refine ai (bJ (r:=true) _ _ Tryz.underlying9 rfl rfl (by rw [h2];rfl)) ?_
  refine aj (dH rfl rfl (aH (bN rfl (ai (aF (htake)) (aj (ax fun K8 hK8=> ?_))))))
  refine an (bN rfl (bE rfl (ai (aF (hb)) (go 2 ?_))))
  refine am (hK8 _ ?_)
  refine go 6 ?_
  exact aq (dR [])
 rw [if_neg h2] at h
 have hr:r.2=bv T i:=by
  repeat' split at h
  all_goals first | (rw [← Option.some.inj h];done) | cases h
 refine ⟨by rw [hr];exact htl,?_⟩
 refine Spec.ofNI Tryz.func237 rfl Tryz.ntmps237 rfl ?_
 refine go 3 ?_
 refine aA (dA 11 [(5,0)] ?_)
 refine go 16 ?_
 refine aJ (_,[]) (fun τ=> aL _ _ aa rfl rfl _ rfl ab (by (simp only [aM,aW,aV,bj,bl];omega)) ag) ?_
 refine go 1 ?_
 refine aJ (_,[]) (fun τ=> bu _ aa rfl (by exact mr _ _ hi) rfl) ?_
 refine go 1 ?_
 refine aJ (_,[((5,0),_)]) (fun τ=> eX (5,0) aa rfl rfl) ?_
 refine go 8 ?_
 refine ai (bJ (r:=false) _ _ Tryz.underlying9 rfl rfl (beq_eq_false_iff_ne.2 h1)) ?_
 refine aj (cd rfl rfl (cX (aA (aA ?_))))
 refine az (σ':=ap 72 [(0,_),(1,_),(4,_),(5,_)] [((0,9),_),((4,0),_),((5,0),_)] [(0,9)] [(0,9)]) kp ?_
 refine go 3 ?_
 refine ai (bJ (r:=false) _ _ Tryz.underlying9 rfl rfl (beq_eq_false_iff_ne.2 h2)) ?_
 refine go 8 ?_
 refine ax fun K8 hK8=> ?_
 refine go 3 ?_
 refine ai (ca _ _ rfl rfl rfl) (aj (aD rfl (fun hc38=> ?_) (fun hc38=> ?_)))
 ·rw [if_pos ab] at h
  obtain rfl:=Option.some.inj h
  refine go 5 ?_
  refine am (hK8 _ ?_)
  refine aH (bN rfl (ai (aF (htake)) (aj (aA ?_))))
  refine az (σ':=ap 72 [(4,_),(7,_)] [((4,0),_),((7,0),_),((0,9),_)] [(0,9)] [(0,9)]) kp ?_
  refine go 4 ?_
  exact aq (dR [])
 rw [if_neg ab] at h
 refine go 3 ?_
 refine ai (bJ _ _ Tryz.underlying9 rfl rfl rfl) (aj (aD rfl (fun hc44=> ?_) (fun hc44=> ?_)))
 ·rw [if_pos (show (cu T i).t=uX from hc44)] at h
  obtain rfl:=Option.some.inj h
  refine go 3 ?_
  refine am (hK8 _ ?_)
  refine aH (bN rfl (ai (aF (htake)) (aj (aA ?_))))
  refine az (σ':=ap 72 [(4,_),(7,_)] [((4,0),_),((7,0),_),((0,9),_)] [(0,9)] [(0,9)]) kp ?_
  refine go 4 ?_
  exact aq (dR [])
 rw [if_neg (show ¬ (cu T i).t=uX from hc44)] at h
 refine go 3 ?_
 refine ai (bJ _ _ Tryz.underlying9 rfl rfl rfl) (aj (aD rfl (fun hc48=> ?_) (fun hc48=> ?_)))
 ·rw [if_pos (show (cu T i).t=sI from hc48)] at h
  obtain rfl:=Option.some.inj h
  refine az (σ':=ap 72 [(0,_),(4,_),(7,_)] [((0,9),_),((4,0),_),((7,0),_)] [(0,9)] [(0,9)]) kp ?_
  refine go 3 ?_
  refine am (hK8 _ ?_)
  refine aH (bN rfl (ai (aF (htake)) (go 5 ?_)))
  exact aq (dR [])
 rw [if_neg (show ¬ (cu T i).t=sI from hc48)] at h
 refine aA ?_
 refine az (σ':=ap 72 [(0,_),(4,_),(5,_),(7,_)] [((0,9),_),((4,0),_),((5,0),_),((7,0),_)] [(0,9)] [(0,9)]) kp ?_
 refine dA 4 [] ?_
 refine aJ (_,[]) (fun τ=> (au aa (by repeat' (exact cL)) (el) rfl rfl)) ?_
 refine go 5 ?_
 refine aJ (_,[]) (fun τ=> (au aa al (bY bltT 9 rfl ab (cu T i).t) rfl rfl)) ?_
 refine go 1 ?_
 refine cD ⟨rfl,?_⟩
 refine aj (aD rfl (fun hc53=> ?_) (fun hc53=> ?_))
 ·rw [if_pos hc53] at h
  obtain rfl:=Option.some.inj h
  refine go 5 ?_
  refine am (hK8 _ ?_)
  refine aH (bN rfl (ai (aF (htake)) (go 5 ?_)))
  exact aq (dR [])
 rw [if_neg hc53] at h
 refine aH (bN rfl (ai (be aa _ _ ar (da T i N hi) tr rfl ae (by simp)) ?_))
 refine aj (aD rfl (fun hc58=> ?_) (fun hc58=> ?_))
 ·rw [if_pos hc58] at h
  obtain rfl:=Option.some.inj h
  refine go 5 ?_
  refine am (hK8 _ ?_)
  refine aH (bN rfl (ai (aF (htake)) (go 5 ?_)))
  exact aq (dR [])
 exact absurd h (by rw [if_neg (by simp [hc58])];exact fun e=> by cases e)
theorem DX (pr:Nat) (h:1≤pr∧pr≤6∧pr≠3):([PV.v (.slice none 0 0), .sl 1 (dh [[124,124]]), .sl 1 (dh [[38,38]]), .v (.slice none 0 0), .sl 6 (dh [[60],[60,61],[62],[62,61],[61,61],[33,61]]), .sl 2 (dh [[43],[45]]), .sl 2 (dh [[42],[47]])]:List PV)[pr]? =some (.sl (opsP.getD pr []).length (dh (opsP.getD pr []))):=by
 have:pr=1∨pr=2∨pr=4∨pr=5∨pr=6:=by omega
 rcases this with rfl | rfl | rfl | rfl | rfl <;> rfl
theorem EN (pr:Nat):(opsP.getD pr []).length≤6:=by
 unfold opsP
 match pr with
 | 0=> decide | 1=> decide | 2=> decide | 3=> decide | 4=> decide | 5=> decide | 6=> decide
 | n+7=> simp
theorem pm {f lv pr:Nat} {d:Nd} {i:Nat} {r:Nd×Nat} (h:mb T f lv pr d i=some r): ∃ g,f=g+1∧((cu T i).t∉opsP.getD pr []∧r=(d,i)∨(cu T i).t∈opsP.getD pr []∧ ∃ e j,fH T g lv (pr+1) (bv T i)=some (e,j)∧
  (pr=4∧r=(nd 18 0 (cu T i).t [d,e],j)∨pr≠4∧mb T g lv pr (nd 18 0 (cu T i).t [d,e]) j=some r)):=by
 cases f with
 | zero=> simp [mb] at h
 | succ g=>
  refine ⟨g,rfl,?_⟩
  unfold mb at h
  split at h
  ·rename_i hm
   simp only [Option.bind_eq_bind,Option.bind_eq_some_iff,Option.pure_def] at h
   obtain ⟨⟨e,j⟩,he,h⟩:=h
   refine .inr ⟨hm,e,j,he,?_⟩
   split at h
   ·rename_i h4;exact .inl ⟨h4,(Option.some.inj h).symm⟩
   rename_i h4;exact .inr ⟨h4,h⟩
  rename_i hm;exact .inl ⟨hm,(Option.some.inj h).symm⟩
theorem zy (hT:T.length≤100000) (f:Nat) (ih: ∀ g,g≤f→PE T N g) (lv pr i:Nat) (r:Nd×Nat) (hl:lv≤20) (hp:1≤pr∧pr≤6∧pr≠3) (hi:i < T.length) (h:yC T (f+1) lv pr i=some r):
  r.2 < T.length∧Spec Tryz.prog 236 (aE [.ptr (0,9) 0, .v (.int .i64 (lv:Int)), .v (.int .i64 (pr:Int))] (de T i N)) (PO T N r):=by
 unfold yC at h
 simp only [Option.bind_eq_bind,Option.bind_eq_some_iff] at h
 obtain ⟨⟨d,j⟩,hd,h⟩:=h
 simp only at h
 obtain ⟨ha,hb⟩:=(ih f (Nat.le_refl _)).expr _ _ _ _ hl ab hi hd
 have hend: ∀ (g:Nat) (d:Nd) (i:Nat),g≤f→i < T.length→mb T g lv pr d i=some r→r.2 < T.length:=by
  intro g
  induction g with
  | zero=> intro d i _ _ h;simp [mb] at h
  | succ g ihg=>
   intro d i hg hi h
   obtain ⟨g',hg',h | ⟨_,e,j,he,h⟩⟩:=pm h
   ·rw [h.2];exact hi
   obtain rfl:g=g':=by omega
   have hj:=((ih g ab).expr _ _ _ _ hl ab (dq hi) he).1
   rcases h with h | h
   ·rw [h.2];exact hj
   exact ihg _ _ ab hj h.2
 refine ⟨hend f d j (Nat.le_refl _) ha h,?_⟩
 have hol:=EN pr
 refine Spec.ofNI Tryz.func236 rfl Tryz.ntmps236 rfl ?_
 refine go 17 ?_
 refine ai (aF (hb)) (go 3 ?_)
 refine ax fun K4 hK4=> ?_
 refine aN ?_
 refine aX (α:=Nat×Nd×Nat) (fun z=> z.1≤f∧z.2.2 < T.length∧mb T z.1 lv pr z.2.1 z.2.2=some r) 53 [(0,_),(1,_),(2,_),(6,_),(7,_),(8,_)] [((6,0),_)] (fun z=> []) (fun z=> [((0,9), .box 222 [.sl T.length (rP T), .v (.int .i64 (z.2.2:Int)), .v (.int .i64 0), .v (.int .i64 0), .sl N.length (dh N)]),((8,0), .box 71 [.v (.int .i64 (z.2.1.k:Int)), .v (.int .i64 (z.2.1.n:Int)), .v (bt z.2.1.s), .sl z.2.1.kn z.2.1.kids])]) [(0,9)] [(0,9)] (fun z=> z.1) (f,d,j) ?_ (kj [0,1,1] [] []) ?_
 ·exact ⟨Nat.le_refl _,ha,h⟩
 intro z hz
 obtain ⟨z1,z2,z3⟩:=z
 obtain ⟨hz1,hz2,hz3⟩:=hz
 obtain ⟨g,rfl,hm⟩:=pm hz3
 simp only at hz1 hz2 hm ⊢
 refine ax fun K5 hK5=> ?_
 refine aA (dA 14 [] ?_)
 refine go 16 ?_
 refine eT (_,[]) rfl (fun τ=> rfl) (fun τ=> aL _ _ aa rfl rfl _ rfl ab ah (by exact Nat.mul_one _)) ?_
 refine go 1 ?_
 refine eT (_,[]) rfl (fun τ=> rfl) (fun τ=> bh _ aa rfl (by exact DX pr hp) rfl) ?_
 refine go 3 ?_
 refine eT (_,[]) rfl (fun τ=> rfl) (fun τ=> (be aa _ _ ar (bw T z3 N hz2) tr rfl ae (by simp))) ?_
 refine go 1 ?_
 refine eT (_,[]) rfl (fun τ=> rfl) (fun τ=> (au aa al (bY (opsP.getD pr []) _ rfl ab (cu T z3).t) rfl rfl)) ?_
 refine go 5 ?_
 refine aD rfl (fun hc35=> ?_) (fun hc35=> ?_)
 ·obtain ⟨_,e,je,he,hm⟩:=hm.resolve_left fun x=> x.1 hc35
  obtain ⟨hea,heb⟩:=(ih g ab).expr _ _ _ _ hl ab (dq hz2) he
  refine aU (hK5 _ ?_)
  refine aN (aH (bN rfl (ai (be aa _ _ ar (bw T z3 N hz2) tr rfl ae (by simp)) ?_)))
  refine sM rfl (aj (aA ?_))
  refine az (σ':=ap 53 [(0,_),(1,_),(2,_),(6,_),(7,_),(8,_),(9,_)] [((6,0),_),((0,9),_),((8,0),_)] [(0,9)] [(0,9)]) kp ?_
  refine an (bN rfl (ai (aF (bS T z3 N hz2 hT)) ?_))
  refine aj (ax fun K9 hK9=> ?_)
  refine go 5 ?_
  refine ai (aF (heb)) (go 2 ?_)
  refine am (hK9 _ ?_)
  refine go 8 ?_
  refine aA ?_
  refine az (σ':=ap 53 [(0,_),(1,_),(2,_),(6,_),(7,_),(8,_)] [((6,0),_),((0,9),_),((8,0),_)] [(0,9)] [(0,9)]) kp ?_
  refine an (bE rfl (ai (ca _ _ rfl rfl rfl) (aj (aD rfl (fun hc51=> ?_) (fun hc51=> ?_)))))
  ·have hr:=(hm.resolve_right fun x=> x.1 ab).2
   subst hr
   refine bm (id (hK4 _ ?_))
   refine go 4 ?_
   exact aq (dR [])
  have hm:=(hm.resolve_left fun x=> hc51 ab).2
  refine aU (⟨(g,nd 18 0 (cu T z3).t [z2,e],je),?_,?_,?_⟩)
  ·exact ⟨by simp only;omega,hea,hm⟩
  ·exact kj [0,1,1] [] []
  simp only;omega
 have hr:=(hm.resolve_right fun x=> hc35 x.1).2
 subst hr
 refine bm (id (hK4 _ ?_))
 refine go 4 ?_
 exact aq (dR [])
theorem Hw (hT:T.length≤100000): ∀ f g,g≤f→PE T N g:=by
 intro f
 induction f with
 | zero=>
  intro g hg
  obtain rfl:g=0:=by omega
  exact ⟨fun _ _ _ _ _ _ _ h=> by simp [fH] at h,fun _ _ _ _ _ _ _ _ h=> by simp [HH] at h,fun _ _ _ _ _ _ _ h=> by simp [yC] at h,fun _ _ _ _ _ h=> by simp [qF] at h,fun _ _ _ _ _ h=> by simp [sZ] at h⟩
 | succ f ih=>
  intro g hg
  rcases Nat.lt_or_ge g (f+1) with h | h
  ·exact ih g ab
  obtain rfl:g=f+1:=by omega
  exact ⟨yp f (ih f (Nat.le_refl _)),CF hT f (ih f (Nat.le_refl _)),zy hT f ih,xP hT f (ih f (Nat.le_refl _)),xe hT f (ih f (Nat.le_refl _))⟩
theorem yw (hT:T.length≤100000) {f lv i:Nat} {r:Nd×Nat} (hl:lv≤20) (hi:i < T.length) (h:fH T f lv 1 i=some r):r.2 < T.length∧Spec Tryz.prog 226 (aE [.ptr (0,9) 0, .v (.int .i64 (lv:Int)), .v (.int .i64 1)] (de T i N)) (PO T N r):=
 (Hw hT f f (Nat.le_refl _)).expr lv 1 i r hl ab hi h
end
end Go.Proofs.YtmjnackchaahbaaGreat
