/- Part 9 of the texts that the walk leans on: the machine, the walks, the plain laws. -/
import Derived.Test.YtmjnackchaahbaaGreatVaZ8
set_option linter.unusedSimpArgs false
set_option linter.unusedVariables false
namespace Go.Proofs.YtmjnackchaahbaaGreat

instance Th:Bld Tryz.prog 24 Hl (fun i=> some (i*1,1)):=Bld.array (bytes:=320) (.agg (Hl).toArray) Tryz.underlying24 ae rfl (by simp [Value.oneCell']) ae
instance TJ:Bld Tryz.prog 25 EN (fun i=> ([(0,1),(1,40),(41,1),(42,1)]:List (Nat×Nat))[i]?):=Bld.struct (bytes:=360) (.agg (EN).toArray) [(0,1),(1,40),(41,1),(42,1)] Tryz.underlying25 ae rfl (by simp [Value.oneCell']) (fun w=> by kernel_rfl)
instance RE:Bld Tryz.prog 26 EN (fun i=> ([(0,1),(1,40),(41,1),(42,1)]:List (Nat×Nat))[i]?):=Bld.struct (bytes:=360) (.agg (EN).toArray) [(0,1),(1,40),(41,1),(42,1)] Tryz.underlying26 ae rfl (by simp [Value.oneCell']) (fun w=> by kernel_rfl)
instance RQ:Bld Tryz.prog 30 uC (fun i=> some (i*1,1)):=Bld.array (bytes:=72) (.agg (uC).toArray) Tryz.underlying30 ae rfl (by simp [Value.oneCell']) ae
instance TU:Bld Tryz.prog 33 CC (fun i=> ([(0,1),(1,1),(2,1),(3,1),(4,1)]:List (Nat×Nat))[i]?):=Bld.struct (bytes:=88) (.agg (CC).toArray) [(0,1),(1,1),(2,1),(3,1),(4,1)] Tryz.underlying33 ae rfl (by simp [Value.oneCell']) (fun w=> by kernel_rfl)
instance TR:Bld Tryz.prog 34 CC (fun i=> ([(0,1),(1,1),(2,1),(3,1),(4,1)]:List (Nat×Nat))[i]?):=Bld.struct (bytes:=88) (.agg (CC).toArray) [(0,1),(1,1),(2,1),(3,1),(4,1)] Tryz.underlying34 ae rfl (by simp [Value.oneCell']) (fun w=> by kernel_rfl)
instance Sh:Bld Tryz.prog 38 Ck (fun i=> ([(0,1),(1,1),(2,1),(3,1),(4,1),(5,1)]:List (Nat×Nat))[i]?):=Bld.struct (bytes:=112) (.agg (Ck).toArray) [(0,1),(1,1),(2,1),(3,1),(4,1),(5,1)] Tryz.underlying38 ae rfl (by simp [Value.oneCell']) (fun w=> by kernel_rfl)
instance Sq:Bld Tryz.prog 39 Ck (fun i=> ([(0,1),(1,1),(2,1),(3,1),(4,1),(5,1)]:List (Nat×Nat))[i]?):=Bld.struct (bytes:=112) (.agg (Ck).toArray) [(0,1),(1,1),(2,1),(3,1),(4,1),(5,1)] Tryz.underlying39 ae rfl (by simp [Value.oneCell']) (fun w=> by kernel_rfl)
instance Ug:Bld Tryz.prog 44 [.int .i64 0, .int .i64 0] (fun i=> some (i*1,1)):=Bld.array (bytes:=16) (.agg #[.int .i64 0, .int .i64 0]) Tryz.underlying44 ae rfl (by simp [Value.oneCell']) ae
instance SE:Bld Tryz.prog 47 [.int .i64 0, .int .i64 0] (fun i=> ([(0,1),(1,1)]:List (Nat×Nat))[i]?):=Bld.struct (bytes:=16) (.agg #[.int .i64 0, .int .i64 0]) [(0,1),(1,1)] Tryz.underlying47 ae rfl (by simp [Value.oneCell']) (fun w=> by kernel_rfl)
instance TT:Bld Tryz.prog 48 [.int .i64 0, .int .i64 0] (fun i=> ([(0,1),(1,1)]:List (Nat×Nat))[i]?):=Bld.struct (bytes:=16) (.agg #[.int .i64 0, .int .i64 0]) [(0,1),(1,1)] Tryz.underlying48 ae rfl (by simp [Value.oneCell']) (fun w=> by kernel_rfl)
instance RD:Bld Tryz.prog 56 mI (fun i=> ([(0,1),(1,1),(2,1),(3,1),(4,1)]:List (Nat×Nat))[i]?):=Bld.struct (bytes:=40) (.agg (mI).toArray) [(0,1),(1,1),(2,1),(3,1),(4,1)] Tryz.underlying56 ae rfl (by simp [Value.oneCell']) (fun w=> by kernel_rfl)
instance Sg:Bld Tryz.prog 57 mI (fun i=> ([(0,1),(1,1),(2,1),(3,1),(4,1)]:List (Nat×Nat))[i]?):=Bld.struct (bytes:=40) (.agg (mI).toArray) [(0,1),(1,1),(2,1),(3,1),(4,1)] Tryz.underlying57 ae rfl (by simp [Value.oneCell']) (fun w=> by kernel_rfl)
instance ST:Bld Tryz.prog 63 EL (fun i=> ([(0,1),(1,1),(2,1)]:List (Nat×Nat))[i]?):=Bld.struct (bytes:=72) (.agg (EL).toArray) [(0,1),(1,1),(2,1)] Tryz.underlying63 ae rfl (by simp [Value.oneCell']) (fun w=> by kernel_rfl)
instance SP:Bld Tryz.prog 64 EL (fun i=> ([(0,1),(1,1),(2,1)]:List (Nat×Nat))[i]?):=Bld.struct (bytes:=72) (.agg (EL).toArray) [(0,1),(1,1),(2,1)] Tryz.underlying64 ae rfl (by simp [Value.oneCell']) (fun w=> by kernel_rfl)
instance SJ:Bld Tryz.prog 70 CA (fun i=> ([(0,1),(1,1),(2,1),(3,1)]:List (Nat×Nat))[i]?):=Bld.struct (bytes:=56) (.agg (CA).toArray) [(0,1),(1,1),(2,1),(3,1)] Tryz.underlying70 ae rfl (by simp [Value.oneCell']) (fun w=> by kernel_rfl)
instance SO:Bld Tryz.prog 71 CA (fun i=> ([(0,1),(1,1),(2,1),(3,1)]:List (Nat×Nat))[i]?):=Bld.struct (bytes:=56) (.agg (CA).toArray) [(0,1),(1,1),(2,1),(3,1)] Tryz.underlying71 ae rfl (by simp [Value.oneCell']) (fun w=> by kernel_rfl)
instance RA:Bld Tryz.prog 72 Cp (fun i=> ([(0,1),(1,4)]:List (Nat×Nat))[i]?):=Bld.struct (bytes:=64) (.agg (Cp).toArray) [(0,1),(1,4)] Tryz.underlying72 ae rfl (by simp [Value.oneCell']) (fun w=> by kernel_rfl)
instance Uh:Bld Tryz.prog 73 Cp (fun i=> ([(0,1),(1,4)]:List (Nat×Nat))[i]?):=Bld.struct (bytes:=64) (.agg (Cp).toArray) [(0,1),(1,4)] Tryz.underlying73 ae rfl (by simp [Value.oneCell']) (fun w=> by kernel_rfl)
instance SY:Bld Tryz.prog 79 [.slice none 0 0, .slice none 0 0] (fun i=> ([(0,1),(1,1)]:List (Nat×Nat))[i]?):=Bld.struct (bytes:=48) (.agg #[.slice none 0 0, .slice none 0 0]) [(0,1),(1,1)] Tryz.underlying79 ae rfl (by simp [Value.oneCell']) (fun w=> by kernel_rfl)
instance Si:Bld Tryz.prog 80 [.slice none 0 0, .slice none 0 0] (fun i=> ([(0,1),(1,1)]:List (Nat×Nat))[i]?):=Bld.struct (bytes:=48) (.agg #[.slice none 0 0, .slice none 0 0]) [(0,1),(1,1)] Tryz.underlying80 ae rfl (by simp [Value.oneCell']) (fun w=> by kernel_rfl)
instance Ti:Bld Tryz.prog 81 Ic (fun i=> some (i*1,1)):=Bld.array (bytes:=328) (.agg (Ic).toArray) Tryz.underlying81 ae rfl (by simp [Value.oneCell']) ae
instance SN:Bld Tryz.prog 82 uK (fun i=> ([(0,1),(1,1),(2,1),(3,1),(4,2),(6,1),(7,1),(8,41),(49,1),(50,1),(51,1)]:List (Nat×Nat))[i]?):=Bld.struct (bytes:=480) (.agg (uK).toArray) [(0,1),(1,1),(2,1),(3,1),(4,2),(6,1),(7,1),(8,41),(49,1),(50,1),(51,1)] Tryz.underlying82 ae rfl (by simp [Value.oneCell']) (fun w=> by kernel_rfl)
instance Ts:Bld Tryz.prog 83 uK (fun i=> ([(0,1),(1,1),(2,1),(3,1),(4,2),(6,1),(7,1),(8,41),(49,1),(50,1),(51,1)]:List (Nat×Nat))[i]?):=Bld.struct (bytes:=480) (.agg (uK).toArray) [(0,1),(1,1),(2,1),(3,1),(4,2),(6,1),(7,1),(8,41),(49,1),(50,1),(51,1)] Tryz.underlying83 ae rfl (by simp [Value.oneCell']) (fun w=> by kernel_rfl)
instance Sr:Bld Tryz.prog 86 vS (fun i=> ([(0,1),(1,1),(2,9),(11,1),(12,1),(13,1),(14,1)]:List (Nat×Nat))[i]?):=Bld.struct (bytes:=152) (.agg (vS).toArray) [(0,1),(1,1),(2,9),(11,1),(12,1),(13,1),(14,1)] Tryz.underlying86 ae rfl (by simp [Value.oneCell']) (fun w=> by kernel_rfl)
instance Sp:Bld Tryz.prog 87 vS (fun i=> ([(0,1),(1,1),(2,9),(11,1),(12,1),(13,1),(14,1)]:List (Nat×Nat))[i]?):=Bld.struct (bytes:=152) (.agg (vS).toArray) [(0,1),(1,1),(2,9),(11,1),(12,1),(13,1),(14,1)] Tryz.underlying87 ae rfl (by simp [Value.oneCell']) (fun w=> by kernel_rfl)
instance TO:Bld Tryz.prog 90 uQ (fun i=> ([(0,1),(1,1),(2,1)]:List (Nat×Nat))[i]?):=Bld.struct (bytes:=24) (.agg (uQ).toArray) [(0,1),(1,1),(2,1)] Tryz.underlying90 ae rfl (by simp [Value.oneCell']) (fun w=> by kernel_rfl)
instance Ub:Bld Tryz.prog 91 uQ (fun i=> ([(0,1),(1,1),(2,1)]:List (Nat×Nat))[i]?):=Bld.struct (bytes:=24) (.agg (uQ).toArray) [(0,1),(1,1),(2,1)] Tryz.underlying91 ae rfl (by simp [Value.oneCell']) (fun w=> by kernel_rfl)
instance Rz:Bld Tryz.prog 92 Ar (fun i=> ([(0,52),(52,1),(53,1),(54,1),(55,1),(56,1),(57,3),(60,6),(66,1)]:List (Nat×Nat))[i]?):=Bld.struct (bytes:=728) (.agg (Ar).toArray) [(0,52),(52,1),(53,1),(54,1),(55,1),(56,1),(57,3),(60,6),(66,1)] Tryz.underlying92 ae rfl (by simp [Value.oneCell']) (fun w=> by kernel_rfl)
instance Td:Bld Tryz.prog 93 Ar (fun i=> ([(0,52),(52,1),(53,1),(54,1),(55,1),(56,1),(57,3),(60,6),(66,1)]:List (Nat×Nat))[i]?):=Bld.struct (bytes:=728) (.agg (Ar).toArray) [(0,52),(52,1),(53,1),(54,1),(55,1),(56,1),(57,3),(60,6),(66,1)] Tryz.underlying93 ae rfl (by simp [Value.oneCell']) (fun w=> by kernel_rfl)
instance RO:Bld Tryz.prog 95 wb (fun i=> ([(0,3),(3,1),(4,1),(5,1),(6,1),(7,5)]:List (Nat×Nat))[i]?):=Bld.struct (bytes:=176) (.agg (wb).toArray) [(0,3),(3,1),(4,1),(5,1),(6,1),(7,5)] Tryz.underlying95 ae rfl (by simp [Value.oneCell']) (fun w=> by kernel_rfl)
instance Tf:Bld Tryz.prog 96 wb (fun i=> ([(0,3),(3,1),(4,1),(5,1),(6,1),(7,5)]:List (Nat×Nat))[i]?):=Bld.struct (bytes:=176) (.agg (wb).toArray) [(0,3),(3,1),(4,1),(5,1),(6,1),(7,5)] Tryz.underlying96 ae rfl (by simp [Value.oneCell']) (fun w=> by kernel_rfl)
instance Qq:Bld Tryz.prog 102 qP (fun i=> ([(0,3),(3,1),(4,1)]:List (Nat×Nat))[i]?):=Bld.struct (bytes:=72) (.agg (qP).toArray) [(0,3),(3,1),(4,1)] Tryz.underlying102 ae rfl (by simp [Value.oneCell']) (fun w=> by kernel_rfl)
instance Nx:Bld Tryz.prog 103 qP (fun i=> ([(0,3),(3,1),(4,1)]:List (Nat×Nat))[i]?):=Bld.struct (bytes:=72) (.agg (qP).toArray) [(0,3),(3,1),(4,1)] Tryz.underlying103 ae rfl (by simp [Value.oneCell']) (fun w=> by kernel_rfl)
instance Nu:Bld Tryz.prog 108 mI (fun i=> ([(0,3),(3,1),(4,1)]:List (Nat×Nat))[i]?):=Bld.struct (bytes:=40) (.agg (mI).toArray) [(0,3),(3,1),(4,1)] Tryz.underlying108 ae rfl (by simp [Value.oneCell']) (fun w=> by kernel_rfl)
instance Om:Bld Tryz.prog 109 mI (fun i=> ([(0,3),(3,1),(4,1)]:List (Nat×Nat))[i]?):=Bld.struct (bytes:=40) (.agg (mI).toArray) [(0,3),(3,1),(4,1)] Tryz.underlying109 ae rfl (by simp [Value.oneCell']) (fun w=> by kernel_rfl)
instance Pz:Bld Tryz.prog 110 oY (fun i=> ([(0,5),(5,1),(6,1)]:List (Nat×Nat))[i]?):=Bld.struct (bytes:=56) (.agg (oY).toArray) [(0,5),(5,1),(6,1)] Tryz.underlying110 ae rfl (by simp [Value.oneCell']) (fun w=> by kernel_rfl)
instance PU:Bld Tryz.prog 111 oY (fun i=> ([(0,5),(5,1),(6,1)]:List (Nat×Nat))[i]?):=Bld.struct (bytes:=56) (.agg (oY).toArray) [(0,5),(5,1),(6,1)] Tryz.underlying111 ae rfl (by simp [Value.oneCell']) (fun w=> by kernel_rfl)
instance Oe:Bld Tryz.prog 114 mI (fun i=> ([(0,3),(3,1),(4,1)]:List (Nat×Nat))[i]?):=Bld.struct (bytes:=40) (.agg (mI).toArray) [(0,3),(3,1),(4,1)] Tryz.underlying114 ae rfl (by simp [Value.oneCell']) (fun w=> by kernel_rfl)
instance Pp:Bld Tryz.prog 115 mI (fun i=> ([(0,3),(3,1),(4,1)]:List (Nat×Nat))[i]?):=Bld.struct (bytes:=40) (.agg (mI).toArray) [(0,3),(3,1),(4,1)] Tryz.underlying115 ae rfl (by simp [Value.oneCell']) (fun w=> by kernel_rfl)
instance Qa:Bld Tryz.prog 116 uC (fun i=> ([(0,5),(5,1),(6,1),(7,1),(8,1)]:List (Nat×Nat))[i]?):=Bld.struct (bytes:=72) (.agg (uC).toArray) [(0,5),(5,1),(6,1),(7,1),(8,1)] Tryz.underlying116 ae rfl (by simp [Value.oneCell']) (fun w=> by kernel_rfl)
instance Ot:Bld Tryz.prog 117 uC (fun i=> ([(0,5),(5,1),(6,1),(7,1),(8,1)]:List (Nat×Nat))[i]?):=Bld.struct (bytes:=72) (.agg (uC).toArray) [(0,5),(5,1),(6,1),(7,1),(8,1)] Tryz.underlying117 ae rfl (by simp [Value.oneCell']) (fun w=> by kernel_rfl)
instance Rw:Bld Tryz.prog 125 [.int .i64 0, .int .i64 0] (fun i=> ([(0,1),(1,1)]:List (Nat×Nat))[i]?):=Bld.struct (bytes:=16) (.agg #[.int .i64 0, .int .i64 0]) [(0,1),(1,1)] Tryz.underlying125 ae rfl (by simp [Value.oneCell']) (fun w=> by kernel_rfl)
instance Rs:Bld Tryz.prog 126 [.int .i64 0, .int .i64 0] (fun i=> ([(0,1),(1,1)]:List (Nat×Nat))[i]?):=Bld.struct (bytes:=16) (.agg #[.int .i64 0, .int .i64 0]) [(0,1),(1,1)] Tryz.underlying126 ae rfl (by simp [Value.oneCell']) (fun w=> by kernel_rfl)
instance Oc:Bld Tryz.prog 128 vw (fun i=> ([(0,1),(1,1),(2,1)]:List (Nat×Nat))[i]?):=Bld.struct (bytes:=56) (.agg (vw).toArray) [(0,1),(1,1),(2,1)] Tryz.underlying128 ae rfl (by simp [Value.oneCell']) (fun w=> by kernel_rfl)
instance QF:Bld Tryz.prog 129 vw (fun i=> ([(0,1),(1,1),(2,1)]:List (Nat×Nat))[i]?):=Bld.struct (bytes:=56) (.agg (vw).toArray) [(0,1),(1,1),(2,1)] Tryz.underlying129 ae rfl (by simp [Value.oneCell']) (fun w=> by kernel_rfl)
instance PP:Bld Tryz.prog 131 wA (fun i=> ([(0,1),(1,9)]:List (Nat×Nat))[i]?):=Bld.struct (bytes:=96) (.agg (wA).toArray) [(0,1),(1,9)] Tryz.underlying131 ae rfl (by simp [Value.oneCell']) (fun w=> by kernel_rfl)
instance NW:Bld Tryz.prog 132 wA (fun i=> ([(0,1),(1,9)]:List (Nat×Nat))[i]?):=Bld.struct (bytes:=96) (.agg (wA).toArray) [(0,1),(1,9)] Tryz.underlying132 ae rfl (by simp [Value.oneCell']) (fun w=> by kernel_rfl)
instance QB:Bld Tryz.prog 138 [.slice none 0 0, .int .i64 0] (fun i=> ([(0,1),(1,1)]:List (Nat×Nat))[i]?):=Bld.struct (bytes:=32) (.agg #[.slice none 0 0, .int .i64 0]) [(0,1),(1,1)] Tryz.underlying138 ae rfl (by simp [Value.oneCell']) (fun w=> by kernel_rfl)
instance OU:Bld Tryz.prog 139 [.slice none 0 0, .int .i64 0] (fun i=> ([(0,1),(1,1)]:List (Nat×Nat))[i]?):=Bld.struct (bytes:=32) (.agg #[.slice none 0 0, .int .i64 0]) [(0,1),(1,1)] Tryz.underlying139 ae rfl (by simp [Value.oneCell']) (fun w=> by kernel_rfl)
instance Ra:Bld Tryz.prog 142 vR (fun i=> ([(0,3),(3,1)]:List (Nat×Nat))[i]?):=Bld.struct (bytes:=96) (.agg (vR).toArray) [(0,3),(3,1)] Tryz.underlying142 ae rfl (by simp [Value.oneCell']) (fun w=> by kernel_rfl)
instance OL:Bld Tryz.prog 143 vR (fun i=> ([(0,3),(3,1)]:List (Nat×Nat))[i]?):=Bld.struct (bytes:=96) (.agg (vR).toArray) [(0,3),(3,1)] Tryz.underlying143 ae rfl (by simp [Value.oneCell']) (fun w=> by kernel_rfl)
instance Qy:Bld Tryz.prog 170 vZ (fun i=> ([(0,43),(43,10),(53,1),(54,5),(59,1),(60,1),(61,1),(62,1),(63,1)]:List (Nat×Nat))[i]?):=Bld.struct (bytes:=608) (.agg (vZ).toArray) [(0,43),(43,10),(53,1),(54,5),(59,1),(60,1),(61,1),(62,1),(63,1)] Tryz.underlying170 ae rfl (by simp [Value.oneCell']) (fun w=> by kernel_rfl)
instance NQ:Bld Tryz.prog 171 vZ (fun i=> ([(0,43),(43,10),(53,1),(54,5),(59,1),(60,1),(61,1),(62,1),(63,1)]:List (Nat×Nat))[i]?):=Bld.struct (bytes:=608) (.agg (vZ).toArray) [(0,43),(43,10),(53,1),(54,5),(59,1),(60,1),(61,1),(62,1),(63,1)] Tryz.underlying171 ae rfl (by simp [Value.oneCell']) (fun w=> by kernel_rfl)
instance Rq:Bld Tryz.prog 173 Bu (fun i=> some (i*1,1)):=Bld.array (bytes:=192) (.agg (Bu).toArray) Tryz.underlying173 ae rfl (by simp [Value.oneCell']) ae
instance Pt:Bld Tryz.prog 176 [] (fun i=> ([]:List (Nat×Nat))[i]?):=Bld.struct (bytes:=0) (.agg #[]) [] Tryz.underlying176 ae rfl (by simp [Value.oneCell']) (fun w=> by kernel_rfl)
instance Pc:Bld Tryz.prog 191 vU (fun i=> ([(0,1),(1,1),(2,1),(3,1)]:List (Nat×Nat))[i]?):=Bld.struct (bytes:=32) (.agg (vU).toArray) [(0,1),(1,1),(2,1),(3,1)] Tryz.underlying191 ae rfl (by simp [Value.oneCell']) (fun w=> by kernel_rfl)
instance Qf:Bld Tryz.prog 192 vU (fun i=> ([(0,1),(1,1),(2,1),(3,1)]:List (Nat×Nat))[i]?):=Bld.struct (bytes:=32) (.agg (vU).toArray) [(0,1),(1,1),(2,1),(3,1)] Tryz.underlying192 ae rfl (by simp [Value.oneCell']) (fun w=> by kernel_rfl)
instance OS:Bld Tryz.prog 195 rU (fun i=> ([(0,5),(5,1)]:List (Nat×Nat))[i]?):=Bld.struct (bytes:=48) (.agg (rU).toArray) [(0,5),(5,1)] Tryz.underlying195 ae rfl (by simp [Value.oneCell']) (fun w=> by kernel_rfl)
instance QM:Bld Tryz.prog 196 rU (fun i=> ([(0,5),(5,1)]:List (Nat×Nat))[i]?):=Bld.struct (bytes:=48) (.agg (rU).toArray) [(0,5),(5,1)] Tryz.underlying196 ae rfl (by simp [Value.oneCell']) (fun w=> by kernel_rfl)
instance NM:Bld Tryz.prog 221 we (fun i=> ([(0,1),(1,1),(2,1),(3,1),(4,1)]:List (Nat×Nat))[i]?):=Bld.struct (bytes:=72) (.agg (we).toArray) [(0,1),(1,1),(2,1),(3,1),(4,1)] Tryz.underlying221 ae rfl (by simp [Value.oneCell']) (fun w=> by kernel_rfl)
instance Rv:Bld Tryz.prog 222 we (fun i=> ([(0,1),(1,1),(2,1),(3,1),(4,1)]:List (Nat×Nat))[i]?):=Bld.struct (bytes:=72) (.agg (we).toArray) [(0,1),(1,1),(2,1),(3,1),(4,1)] Tryz.underlying222 ae rfl (by simp [Value.oneCell']) (fun w=> by kernel_rfl)
instance Qm:Bld Tryz.prog 224 rq (fun i=> ([(0,1),(1,1),(2,1),(3,1)]:List (Nat×Nat))[i]?):=Bld.struct (bytes:=40) (.agg (rq).toArray) [(0,1),(1,1),(2,1),(3,1)] Tryz.underlying224 ae rfl (by simp [Value.oneCell']) (fun w=> by kernel_rfl)
instance NK:Bld Tryz.prog 225 rq (fun i=> ([(0,1),(1,1),(2,1),(3,1)]:List (Nat×Nat))[i]?):=Bld.struct (bytes:=40) (.agg (rq).toArray) [(0,1),(1,1),(2,1),(3,1)] Tryz.underlying225 ae rfl (by simp [Value.oneCell']) (fun w=> by kernel_rfl)
instance Rc:Bld Tryz.prog 287 FM (fun i=> ([(0,1),(1,1),(2,1),(3,1),(4,1),(5,1),(6,1),(7,1),(8,1),(9,1),(10,1)]:List (Nat×Nat))[i]?):=Bld.struct (bytes:=48) (.agg (FM).toArray) [(0,1),(1,1),(2,1),(3,1),(4,1),(5,1),(6,1),(7,1),(8,1),(9,1),(10,1)] Tryz.underlying287 ae rfl (by simp [Value.oneCell']) (fun w=> by kernel_rfl)
def gj (n m:Int):Int:=(if n < 0 then -(n+1) else n) % m
theorem mF (n m:Int) (h:0 < m):0≤gj n m:=Int.emod_nonneg _ ab
theorem mA (n m:Int) (h:0 < m):gj n m < m:=Int.emod_lt_of_pos _ h
theorem iq (n m:Int) (hm:1≤m) (h1:m≤4611686018427387904) (h2: -9223372036854775808≤n) (h3:n≤9223372036854775807):
  Spec Tryz.prog 33 (bi [.v (.int .i64 n), .v (.int .i64 m)] []) (aW (.v (.int .i64 (gj n m))) []):=by
 refine Spec.ofN Tryz.func33 rfl Tryz.ntmps33 rfl ?_
 refine am (ba rfl (aj (aq (am (aR rfl (ai (bp _ _ rfl rfl rfl) (aj (aV rfl (fun hc6=> ?_) (fun hc6=> ?_)))))))))
 ·skip
  refine an (aR rfl (ai (bc _ _ rfl rfl (bq ab)) ?_))
  refine ai (tJ _ rfl (bq ab)) ?_
  refine ba rfl (aj (am (aR rfl (aR rfl (ai (cQ _ _ rfl rfl ab (Int.tmod_eq_emod_of_nonneg ab)) ?_)))))
  refine ba rfl (aj (aC (aY (.inr rfl) rfl (.tmp (rfl:_=AV.v (.int _ _))) (Le.out [] [] (cj ?_) rfl rfl rfl trivial trivial))))
  unfold gj
  rw [if_pos hc6]
 ·skip
  refine aI (am (aR rfl (aR rfl (ai (cQ _ _ rfl rfl ab (Int.tmod_eq_emod_of_nonneg ab)) ?_))))
  refine ba rfl (aj (aC (aY (.inr rfl) rfl (.tmp (rfl:_=AV.v (.int _ _))) (Le.out [] [] (cj ?_) rfl rfl rfl trivial trivial))))
  unfold gj
  rw [if_neg ab]

theorem vI (n m:Nat) (xs ys:List Int) (hn:xs.length=n) (hm:ys.length=m) (h1:n≤4611686018427387904) (h2:m≤4611686018427387904):
  Spec Tryz.prog 30 (bi [.sl n (da xs), .sl m (da ys)] []) (aW (.v (.bool (decide (xs=ys)))) []):=by
 subst hn;subst hm
 refine Spec.ofN Tryz.func30 rfl Tryz.ntmps30 rfl ?_
 refine am (cq rfl (aj (aq (am (ep rfl (ai (bG _ aa rfl) (ep rfl (ai (bG _ aa rfl) (ai (bY _ _ rfl rfl rfl) (aj ?_))))))))))
 refine aV rfl (fun hc10=> ?_) (fun hc10=> ?_)
 ·skip
  refine am (cq rfl (aj (aC (aY (.inr rfl) rfl (.tmp (rfl:_=AV.v (.bool _))) (Le.out [] [] (ie ?_) rfl rfl rfl trivial trivial)))))
  exact decide_eq_false fun h=> by subst h;omega
 ·skip
  refine aI (aG fun K5 hK5=> ?_)
  refine am (ba rfl (aj (au ?_)))
  refine bC (α:=Nat) (fun k=> k≤xs.length∧xs.length=ys.length∧xs.take k=ys.take k) 26 [(0,_),(1,_)] [] (fun k=> [(5, .v (.int .i64 (k:Int)))]) (fun k=> []) [] [] (fun k=> xs.length - k) 0 ?_ (by
   refine Le.mkJ [] [] rfl ?_ ?_ trivial trivial ?_
   ·exact ⟨(by exact iS rfl),(by exact iS rfl),(cj ag),trivial⟩
   ·exact trivial
   ·kernel_rfl) ?_
  ·exact ⟨by omega,by omega,rfl⟩
  intro k hk
  obtain ⟨hk,hl,ht⟩:=hk
  refine aG fun K7 hK7=> ?_
  refine am (aR rfl (ep rfl (ai (bG _ aa rfl) (ai (bp _ _ rfl rfl rfl) (aj (aV rfl (fun hc14=> ?_) (fun hc14=> ?_)))))))
  ·skip
   have hkx:k < xs.length:=by omega
   have hky:k < ys.length:=by omega
   refine bA (hK7 _ ?_)
   clear hK7;try clear K7
   refine aq (au (aq ?_))
   refine aM (σ':=aB 26 [(0,_),(1,_),(5,_)] [] [] []) (by
    refine Le.mkJ [] [] rfl ?_ ?_ trivial trivial ?_
    ·exact ⟨(by exact iS rfl),(by exact iS rfl),(iV rfl),trivial⟩
    ·exact trivial
    ·kernel_rfl) ?_
   refine bE 9 [17,18,19,20,21,22,23,24,25] [] ae ae rfl (aL rfl) (rfl:_=[_,_,_,_,_,_,_,_,_]) (rfl:_=[]) ?_
   refine ap (_,[]) (fun τ=> aD _ (rfl:_=AV.sl _ _)) ?_
   refine eL rfl ?_
   refine ap (_,[]) (fun τ=> aD _ (rfl:_=AV.v (.int _ _))) ?_
   refine eK rfl ?_
   refine ap (_,[]) (fun τ=> bf _ _ aa rfl rfl _ rfl ab (by (simp only [aZ,bm,bl];omega)) (by exact Nat.mul_one _)) ?_
   refine eM rfl ?_
   refine ap (_,[]) (fun τ=> bB _ aa rfl (by exact dj _ _ ab) rfl) ?_
   refine eP rfl ?_
   refine ap (_,[]) (fun τ=> aD _ (rfl:_=AV.sl _ _)) ?_
   refine fe rfl ?_
   refine ap (_,[]) (fun τ=> aD _ (rfl:_=AV.v (.int _ _))) ?_
   refine fB rfl ?_
   refine ap (_,[]) (fun τ=> bf _ _ aa rfl rfl _ rfl ab (by (simp only [aZ,bm,bl];omega)) (by exact Nat.mul_one _)) ?_
   refine gy rfl ?_
   refine ap (_,[]) (fun τ=> bB _ aa rfl (by exact dj _ _ ab) rfl) ?_
   refine jS rfl ?_
   refine ap (_,[]) (fun τ=> bY _ _ rfl rfl rfl) ?_
   refine kd rfl (bh ⟨rfl,?_⟩)
   refine aj (aV rfl (fun hc25=> ?_) (fun hc25=> ?_))
   ·skip
    refine am (cq rfl (aj (aC (aY (.inr rfl) rfl (.tmp (rfl:_=AV.v (.bool _))) (Le.out [] [] (ie ?_) rfl rfl rfl trivial trivial)))))
    exact decide_eq_false fun h=> by subst h;exact hc25 rfl
   ·skip
    refine cf (an (aR rfl (ai (bc _ _ rfl rfl (bq ab)) ?_)))
    refine ba rfl (az (⟨k+1,?_,?_,?_⟩))
    ·refine ⟨by omega,hl,?_⟩
     rw [qh _ _ _ hkx,qh _ _ _ hky] at hc25
     rw [List.take_succ_eq_append_getElem hkx,List.take_succ_eq_append_getElem hky,ht,hc25]
    ·skip
     refine Le.mkJ [] [] rfl ?_ ?_ trivial trivial ?_
     ·exact ⟨(by exact iS rfl),(by exact iS rfl),(cj ag),trivial⟩
     ·exact trivial
     ·kernel_rfl
    ·omega
  ·skip
   refine bL (id (hK5 _ ?_))
   clear hK5;try clear K5
   refine am (cq rfl (aj (aC (aY (.inr rfl) rfl (.tmp (rfl:_=AV.v (.bool _))) (Le.out [] [] (ie ?_) rfl rfl rfl trivial trivial)))))
   rw [List.take_of_length_le ab,List.take_of_length_le ab] at ht
   exact decide_eq_true ht

theorem mS (b:UInt8):Spec Tryz.prog 221 (bi [.v (.int .u8 (b.toNat:Int))] []) (aW (.v (.bool (lX b))) []):=by
 have h:=yR b
 refine Spec.ofN Tryz.func221 rfl Tryz.ntmps221 rfl ?_
 refine am (cq rfl (aj (am (aR rfl (ai (eF _ _ rfl rfl rfl) (cH rfl (dO (fun hg5=> ?_) (fun hg5=> ?_))))))))
 ·skip
  have h:lX b=decide ((b.toNat:Int)≤122):=by rw [Bool.eq_iff_iff,h];simp [hg5]
  refine ax rfl rfl (aD _ (rfl:_=AV.v (.int _ _))) (ax rfl rfl (bM _ _ rfl rfl rfl) (ai (aF _ _ _ rfl (rfl:_=AV.v (.bool _))) (cq rfl (aj (aC (aY (.inr rfl) rfl (.tmp (rfl:_=AV.v (.bool _))) (Le.out [] [] (ie ?_) rfl rfl rfl trivial trivial)))))))
  exact h
 ·skip
  have h:lX b=false:=CD h (fun x=> by omega)
  refine aX rfl rfl ah ?_
  refine aX rfl rfl ah ?_
  refine ai (aF _ _ _ rfl (rfl:_=AV.v (.bool _))) (cq rfl (aj (aC (aY (.inr rfl) rfl (.tmp (rfl:_=AV.v (.bool _))) (Le.out [] [] (ie ?_) rfl rfl rfl trivial trivial)))))
  exact h
theorem kW (b:UInt8):Spec Tryz.prog 222 (bi [.v (.int .u8 (b.toNat:Int))] []) (aW (.v (.bool (fL b))) []):=by
 have h:=sj b
 refine Spec.ofN Tryz.func222 rfl Tryz.ntmps222 rfl ?_
 refine am (cq rfl (aj (am (aR rfl (ai (eF _ _ rfl rfl rfl) (cH rfl (dO (fun hg5=> ?_) (fun hg5=> ?_))))))))
 ·skip
  have h:fL b=decide ((b.toNat:Int)≤57):=by rw [Bool.eq_iff_iff,h];simp [hg5]
  refine ax rfl rfl (aD _ (rfl:_=AV.v (.int _ _))) (ax rfl rfl (bM _ _ rfl rfl rfl) (ai (aF _ _ _ rfl (rfl:_=AV.v (.bool _))) (cq rfl (aj (aC (aY (.inr rfl) rfl (.tmp (rfl:_=AV.v (.bool _))) (Le.out [] [] (ie ?_) rfl rfl rfl trivial trivial)))))))
  exact h
 ·skip
  have h:fL b=false:=CD h (fun x=> by omega)
  refine aX rfl rfl ah ?_
  refine aX rfl rfl ah ?_
  refine ai (aF _ _ _ rfl (rfl:_=AV.v (.bool _))) (cq rfl (aj (aC (aY (.inr rfl) rfl (.tmp (rfl:_=AV.v (.bool _))) (Le.out [] [] (ie ?_) rfl rfl rfl trivial trivial)))))
  exact h
theorem oF (l:List Tx) (n:Nat) (hn:l.length=n) (h1:n≤1000) (t:Tx):Spec Tryz.prog 224 (bi [.sl n (dU l), .v (bt t)] []) (aW (.v (.bool (decide (t∈l)))) []):=by
 refine Spec.ofN Tryz.func224 rfl Tryz.ntmps224 rfl ?_
 refine am (cq rfl (aj (aG fun K2 hK2=> ?_)))
 refine am (ba rfl (aj (au ?_)))
 refine bC (α:=Nat) (fun k=> k≤n∧t∉l.take k) 18 [(0,_),(1,_)] [] (fun k=> [(5, .v (.int .i64 (k:Int)))]) (fun k=> []) [] [] (fun k=> n - k) 0 ?_ (by
  refine Le.mkJ [] [] rfl ?_ ?_ trivial trivial ?_
  ·exact ⟨(iS rfl),(iV rfl),(cj ag),trivial⟩
  ·exact trivial
  ·kernel_rfl) ?_
 ·exact ⟨Nat.zero_le _,by simp⟩
 intro k hk
 obtain ⟨hk,hnt⟩:=hk
 refine aG fun K4 hK4=> ?_
 refine am (aR rfl (ep rfl (ai (bG _ aa rfl) (ai (bp _ _ rfl rfl rfl) (aj (aV rfl (fun hc9=> ?_) (fun hc9=> ?_)))))))
 ·skip
  refine bA (hK4 _ ?_)
  clear hK4;try clear K4
  refine aq (au (am (ep rfl (aR rfl (ai (bf _ _ aa rfl rfl _ rfl ab (by (simp only [aZ,bm,bl,bw];omega)) (by exact Nat.mul_one _)) ?_)))))
  refine ai (bB _ aa rfl (by exact fv _ _ ab) rfl) ?_
  refine dJ rfl (ai (aT _ _ Tryz.underlying9 rfl rfl rfl) (aj (aV rfl (fun hc17=> ?_) (fun hc17=> ?_))))
  ·skip
   refine am (cq rfl (aj (aC (aY (.inr rfl) rfl (.tmp (rfl:_=AV.v (.bool _))) (Le.out [] [] (ie ?_) rfl rfl rfl trivial trivial)))))
   exact decide_eq_true (hc17 ▸ iX ab)
  ·skip
   refine cf (an (aR rfl (ai (bc _ _ rfl rfl (bq ab)) ?_)))
   refine ba rfl (az (⟨k+1,?_,?_,?_⟩))
   ·exact ⟨by omega,jj hnt ab hc17⟩
   ·skip
    refine Le.mkJ [] [] rfl ?_ ?_ trivial trivial ?_
    ·exact ⟨(iS rfl),(iV rfl),(cj ag),trivial⟩
    ·exact trivial
    ·kernel_rfl
   ·omega
 ·skip
  have hall:t∉l:=by rwa [List.take_of_length_le ab] at hnt
  refine bL (id (hK2 _ ?_))
  clear hK2;try clear K2
  refine am (cq rfl (aj (aC (aY (.inr rfl) rfl (.tmp (rfl:_=AV.v (.bool _))) (Le.out [] [] (ie ?_) rfl rfl rfl trivial trivial)))))
  exact decide_eq_false hall
theorem pQ (s:Tx) (at_:Nat) (h1:s.length≤100000) (ha:at_≤s.length):Spec Tryz.prog 194 (bi [.v (bt s), .v (.int .i64 (at_:Int))] []) (aW (.v (.int .i64 (jy s at_ false:Int))) []):=by
 refine Spec.ofN Tryz.func194 rfl Tryz.ntmps194 rfl ?_
 refine am (ba rfl (aj (aG fun K2 hK2=> ?_)))
 refine au ?_
 refine bC (α:=Nat) (fun k=> k≤s.length∧jy s k false=jy s at_ false) 41 [(0,_)] [] (fun k=> [(1, .v (.int .i64 (k:Int)))]) (fun k=> []) [] [] (fun k=> s.length - k) at_ ?_ (by
  refine Le.mkJ [] [] rfl ?_ ?_ trivial trivial ?_
  ·exact ⟨(iV rfl),(cj ag),trivial⟩
  ·exact trivial
  ·kernel_rfl) ?_
 ·exact ⟨ha,rfl⟩
 intro k hk
 obtain ⟨hk,hs⟩:=hk
 refine aG fun K3 hK3=> ?_
 refine am (aR rfl (dJ rfl (ai (gu _ Tryz.underlying9 rfl) (ai (bp _ _ rfl rfl rfl) (aj (aV rfl (fun hc9=> ?_) (fun hc9=> ?_)))))))
 ·skip
  obtain ⟨b,hb⟩:=jf (s:=s) (a:=k) ab
  have hbi:=KE b
  refine bA (hK3 _ ?_)
  clear hK3;try clear K3
  refine au (am (dJ rfl (aR rfl (ai (jX _ _ Tryz.underlying9 rfl rfl (by assumption)) ?_))))
  refine ba rfl (aj (am (aR rfl (ai (bR _ _ rfl rfl rfl) (aj (aV rfl (fun hc14=> ?_) (fun hc14=> ?_)))))))
  ·skip
   have hs:=(wY hb ab).symm.trans hs
   refine au ?_
   refine bC (α:=Nat) (fun j=> k≤j∧j≤s.length∧jy s j true=jy s at_ false∧(j=k→j < s.length)) 41 [(0,_)] [] (fun j=> [(1, .v (.int .i64 (j:Int)))]) (fun j=> []) [] [] (fun j=> s.length - j) k ?_ (by
    refine Le.mkJ [] [] rfl ?_ ?_ trivial trivial ?_
    ·exact ⟨(iV rfl),(cj ag),trivial⟩
    ·exact trivial
    ·kernel_rfl) ?_
   ·exact ⟨Nat.le_refl _,by omega,hs,fun _=> by omega⟩
   intro j hj
   obtain ⟨hj1,hj2,hsj,hjk⟩:=hj
   refine aG fun K7 hK7=> ?_
   refine aG fun K8 hK8=> ?_
   refine an (aR rfl (dJ rfl (ai (gu _ Tryz.underlying9 rfl) (ai (bp _ _ rfl rfl rfl) (cH rfl (dO (fun hg19=> ?_) (fun hg19=> ?_)))))))
   ·skip
    obtain ⟨u,hu⟩:=jf (s:=s) (a:=j) ab
    have hui:=KE u
    refine ax rfl rfl (aD _ (rfl:_=AV.v (.string _))) (ax rfl rfl (aD _ (rfl:_=AV.v (.int _ _))) (ax rfl rfl (jX _ _ Tryz.underlying9 rfl rfl (by assumption)) ?_))
    refine ax rfl rfl (bY _ _ rfl rfl rfl) (ai (aF _ _ _ rfl (rfl:_=AV.v (.bool _))) (az (hK8 _ ?_)))
    clear hK8;try clear K8
    refine aV rfl (fun hc24=> ?_) (fun hc24=> ?_)
    ·skip
     refine bA (hK7 _ ?_)
     clear hK7;try clear K7
     refine au (an (aR rfl (ai (bc _ _ rfl rfl (bq ab)) ?_)))
     refine ba rfl (az (⟨j+1,?_,?_,?_⟩))
     ·exact ⟨by omega,by omega,(Ei hu ab).symm.trans hsj,fun _=> by omega⟩
     ·skip
      refine Le.mkJ [] [] rfl ?_ ?_ trivial trivial ?_
      ·exact ⟨(iV rfl),(cj ag),trivial⟩
      ·exact trivial
      ·kernel_rfl
     ·omega
    ·skip
     have hjs:jy s j false=jy s at_ false:=by rw [← hsj,Ed hu ab]
     have hjk':k < j:=Nat.lt_of_le_of_ne hj1 fun e=> by subst e;rw [hb] at hu;obtain rfl:=Option.some.inj hu;omega
     refine bL (id (⟨j,?_,?_,?_⟩))
     ·exact ⟨hj2,hjs⟩
     ·skip
      refine Le.mkJ [] [] rfl ?_ ?_ trivial trivial ?_
      ·exact ⟨(iV rfl),(cj ag),trivial⟩
      ·exact trivial
      ·kernel_rfl
     ·omega
   ·skip
    have hjs:jy s j false=jy s at_ false:=by rw [← hsj,qq ab,qq ab]
    have hjk':k < j:=Nat.lt_of_le_of_ne hj1 fun e=> by have:=hjk e.symm;omega
    refine aX rfl rfl ah ?_
    refine aX rfl rfl ah ?_
    refine aX rfl rfl ah ?_
    refine aX rfl rfl ah ?_
    refine ai (aF _ _ _ rfl (rfl:_=AV.v (.bool _))) (az (hK8 _ ?_))
    clear hK8;try clear K8
    refine aQ rfl rfl (bL (id (⟨j,?_,?_,?_⟩)))
    ·exact ⟨hj2,hjs⟩
    ·skip
     refine Le.mkJ [] [] rfl ?_ ?_ trivial trivial ?_
     ·exact ⟨(iV rfl),(cj ag),trivial⟩
     ·exact trivial
     ·kernel_rfl
    ·omega
  ·skip
   refine am (aR rfl (ai (bR _ _ rfl rfl rfl) (cH rfl (dO (fun hg29=> ?_) (fun hg29=> ?_)))))
   ·skip
    have hs2:jy s (k+1) false=jy s at_ false:=(sP hb ab ab).symm.trans hs
    refine aX rfl rfl ah ?_
    refine aX rfl rfl ah ?_
    refine ai (aF _ _ _ rfl (rfl:_=AV.v (.bool _))) (cH rfl (aX rfl rfl ah ?_))
    refine aX rfl rfl ah ?_
    refine ai (aF _ _ _ rfl (rfl:_=AV.v (.bool _))) (aj (bD rfl rfl ?_))
    refine aM (σ':=aB 41 [(0,_),(1,_)] [] [] []) kp ?_
    refine an (aR rfl (ai (bc _ _ rfl rfl (bq ab)) ?_))
    refine ba rfl (az (⟨k+1,?_,?_,?_⟩))
    ·exact ⟨by omega,hs2⟩
    ·skip
     refine Le.mkJ [] [] rfl ?_ ?_ trivial trivial ?_
     ·exact ⟨(iV rfl),(cj ag),trivial⟩
     ·exact trivial
     ·kernel_rfl
    ·omega
   ·skip
    refine ax rfl rfl (aD _ (rfl:_=AV.v (.int _ _))) (ax rfl rfl (bR _ _ rfl rfl rfl) (ai (aF _ _ _ rfl (rfl:_=AV.v (.bool _))) (cH rfl (dO (fun hg33=> ?_) (fun hg33=> ?_)))))
    ·skip
     have hs2:jy s (k+1) false=jy s at_ false:=(sP hb ab ab).symm.trans hs
     refine aX rfl rfl ah ?_
     refine aX rfl rfl ah ?_
     refine ai (aF _ _ _ rfl (rfl:_=AV.v (.bool _))) (aj (bD rfl rfl ?_))
     refine aM (σ':=aB 41 [(0,_),(1,_)] [] [] []) kp ?_
     refine an (aR rfl (ai (bc _ _ rfl rfl (bq ab)) ?_))
     refine ba rfl (az (⟨k+1,?_,?_,?_⟩))
     ·exact ⟨by omega,hs2⟩
     ·skip
      refine Le.mkJ [] [] rfl ?_ ?_ trivial trivial ?_
      ·exact ⟨(iV rfl),(cj ag),trivial⟩
      ·exact trivial
      ·kernel_rfl
     ·omega
    ·skip
     refine ax rfl rfl (aD _ (rfl:_=AV.v (.int _ _))) (ax rfl rfl (bR _ _ rfl rfl rfl) (ai (aF _ _ _ rfl (rfl:_=AV.v (.bool _))) (aj (aV rfl (fun hc36=> ?_) (fun hc36=> ?_)))))
     ·skip
      have hs2:jy s (k+1) false=jy s at_ false:=(sP hb ab ab).symm.trans hs
      refine aM (σ':=aB 41 [(0,_),(1,_)] [] [] []) kp ?_
      refine an (aR rfl (ai (bc _ _ rfl rfl (bq ab)) ?_))
      refine ba rfl (az (⟨k+1,?_,?_,?_⟩))
      ·exact ⟨by omega,hs2⟩
      ·skip
       refine Le.mkJ [] [] rfl ?_ ?_ trivial trivial ?_
       ·exact ⟨(iV rfl),(cj ag),trivial⟩
       ·exact trivial
       ·kernel_rfl
      ·omega
     ·skip
      have hs3:=(AX hb ab ab).symm.trans hs
      refine aq ?_
      refine aM (σ':=aB 41 [(1,_)] [] [] []) kp ?_
      refine an (aR rfl (ba rfl (aj (aC (aY (.inr rfl) rfl (.tmp (rfl:_=AV.v (.int _ _))) (Le.out [] [] (cj ?_) rfl rfl rfl trivial trivial))))))
      rw [hs3]
 ·skip
  refine bL (id (hK2 _ ?_))
  clear hK2;try clear K2
  refine am (aR rfl (ba rfl (aj (aC (aY (.inr rfl) rfl (.tmp (rfl:_=AV.v (.int _ _))) (Le.out [] [] (cj ?_) rfl rfl rfl trivial trivial))))))
  rw [← hs,qq ab]
theorem ny (s:Tx) (h1:s.length≤100000) (hd: ∀ b∈s,fL b=true) (hv:jz s≤2147483647):Spec Tryz.prog 223 (bi [.v (bt s)] []) (aW (.v (.int .i64 (jz s:Int))) []):=by
 have hvt:=fun i=> vn s i
 refine Spec.ofN Tryz.func223 rfl Tryz.ntmps223 rfl ?_
 refine am (ba rfl (aj (am (ba rfl (aj (aG fun K3 hK3=> ?_))))))
 refine am (ba rfl (aj (au ?_)))
 refine bC (α:=Nat) (fun k=> k≤s.length) 22 [(0,_)] [] (fun k=> [(3, .v (.int .i64 (jz (s.take k):Int))),(4, .v (.int .i64 (k:Int)))]) (fun k=> []) [] [] (fun k=> s.length - k) 0 ?_ (by
  refine Le.mkJ [] [] rfl ?_ ?_ trivial trivial ?_
  ·exact ⟨(iV rfl),(cj ag),(cj ag),trivial⟩
  ·exact trivial
  ·kernel_rfl) ?_
 ·omega
 intro k hk
 refine aG fun K5 hK5=> ?_
 refine am (aR rfl (dJ rfl (ai (gu _ Tryz.underlying9 rfl) (ai (bp _ _ rfl rfl rfl) (aj (aV rfl (fun hc8=> ?_) (fun hc8=> ?_)))))))
 ·skip
  obtain ⟨b,hb⟩:=jf (s:=s) (a:=k) ab
  have hbi:=KE b
  have hbd:=(sj b).1 (hd b (List.mem_of_getElem? hb))
  have hvs:=wt hb
  have hv0:=hvt k
  have hv1:=hvt (k+1)
  have hvi:(10:Int)*(jz (s.take k):Int)+(b.toNat:Int) - 48=(jz (s.take (k+1)):Int):=by omega
  refine bA (hK5 _ ?_)
  clear hK5;try clear K5
  refine aq (au (am (aR rfl (ai (tk _ _ rfl rfl (bq ab)) ?_))))
  refine dJ rfl (aR rfl (ai (jX _ _ Tryz.underlying9 rfl rfl (by assumption)) ?_))
  refine ai (Am _ Tryz.underlying5 Tryz.underlying3 rfl (bq ab)) ?_
  refine ai (bc _ _ rfl rfl (bq ab)) ?_
  refine ai (ca _ _ rfl rfl (bq ab)) ?_
  refine ba rfl (aj (am (aR rfl (ai (dq _ _ rfl rfl rfl) (aj (aQ rfl (decide_eq_false ab) ?_))))))
  refine cf ?_
  refine aM (σ':=aB 22 [(0,_),(3,_),(4,_)] [] [] []) kp ?_
  refine an (aR rfl (ai (bc _ _ rfl rfl (bq ab)) ?_))
  refine ba rfl (az (⟨k+1,?_,?_,?_⟩))
  ·omega
  ·skip
   refine Le.mkJ [] [] rfl ?_ ?_ trivial trivial ?_
   ·exact ⟨(iV rfl),(cj ab),(cj ag),trivial⟩
   ·exact trivial
   ·kernel_rfl
  ·omega
 ·skip
  have he:s.take k=s:=List.take_of_length_le ab
  refine bL (id (hK3 _ ?_))
  clear hK3;try clear K3
  refine am (aR rfl (ba rfl (aj (aC (aY (.inr rfl) rfl (.tmp (rfl:_=AV.v (.int _ _))) (Le.out [] [] (cj ?_) rfl rfl rfl trivial trivial))))))
  rw [he]

theorem wQ {p:UInt8→Bool} {c:UInt8}: ∀ {l:List UInt8},c∈l.takeWhile p→p c=true
 | [],h=> by simp at h
 | x::l,h=> by
  rw [List.takeWhile_cons] at h
  split at h
  ·rename_i hx
   rcases List.mem_cons.1 h with rfl | h
   ·exact hx
   ·exact wQ h
  ·simp at h
def qX (c:UInt8):Bool:=lX c || fL c
theorem pu {s:Tx} {a:Nat} {b:UInt8} {t:Tk} (hb:s[a]? =some b) (h1:lX b=true) (h:oP (s.drop a) a=some t):kh qX s (a+1) - a≤10∧t=⟨1,a,(s.drop a).take (kh qX s (a+1) - a),0⟩:=by
 rw [rZ hb]
 rw [fw hb,oP] at h
 simp only [h1,if_true] at h
 rw [show kh qX s (a+1) - a=(b::(s.drop (a+1)).takeWhile fun x=> lX x || fL x).length by unfold kh qX;rw [List.length_cons];omega]
 split at h
 ·cases h
 ·rename_i hl;exact ⟨by omega,(Option.some.inj h).symm⟩
theorem rI {s:Tx} {a:Nat} {b:UInt8} {t:Tk} (hb:s[a]? =some b) (h1:lX b=false) (h2:fL b=true) (h:oP (s.drop a) a=some t):
  (∀ c∈(s.drop a).take (kh fL s (a+1) - a),fL c=true)∧jz ((s.drop a).take (kh fL s (a+1) - a))≤2147483647∧t=⟨2,a,(s.drop a).take (kh fL s (a+1) - a),jz ((s.drop a).take (kh fL s (a+1) - a))⟩:=by
 rw [rZ hb]
 rw [fw hb,oP] at h
 simp only [h1,h2,if_true] at h
 simp only [Bool.false_eq_true,if_false] at h
 split at h
 ·cases h
 ·rename_i hl
  refine ⟨fun c hc=> ?_,by omega,(Option.some.inj h).symm⟩
  rcases List.mem_cons.1 hc with rfl | hc
  ·exact h2
  ·exact wQ hc
theorem ru {s:Tx} {a:Nat} {b:UInt8} {t:Tk} (hb:s[a]? =some b) (h1:lX b=false) (h2:fL b=false) (h:oP (s.drop a) a=some t):
  ((s.drop a).take 2∈AM∧t=⟨3,a,(s.drop a).take 2,0⟩)∨((s.drop a).take 2∉AM∧(s.drop a).take 1∈DM∧t=⟨3,a,(s.drop a).take 1,0⟩):=by
 rw [fw hb,oP] at h
 simp only [h1,h2,Bool.false_eq_true,if_false] at h
 rw [fw hb]
 split at h
 ·rename_i hm;exact .inl ⟨hm,(Option.some.inj h).symm⟩
 ·rename_i hm
  split at h
  ·rename_i hs;exact .inr ⟨hm,hs,(Option.some.inj h).symm⟩
  ·cases h
theorem vu {s:Tx} {a:Nat} (h:a < s.length):(s.drop a).take (min (a+2) s.length - a)=(s.drop a).take 2:=by
 by_cases h2:a+2≤s.length
 ·congr 1;omega
 ·rw [List.take_of_length_le (by rw [List.length_drop];omega),List.take_of_length_le (by rw [List.length_drop];omega)]
theorem tj (s:Tx) (a:Nat) (h1:s.length≤100000) (ha:a < s.length) (t:Tk) (ht:oP (s.drop a) a=some t):
  Spec Tryz.prog 195 (bi [.v (bt s), .v (.int .i64 (a:Int))] []) (aW (.tup [.agg [.v (.int .i64 (t.k:Int)), .v (.int .i64 (t.a:Int)), .v (bt t.t), .v (.int .i64 (t.n:Int))], .v (.int .i64 0)]) []):=by
 obtain ⟨b,hb⟩:=jf ha
 have hwl:=qv (p:=qX) (s:=s) (a:=a+1) ab
 have hdl:=qv (p:=fL) (s:=s) (a:=a+1) ab
 refine Spec.ofN Tryz.func195 rfl Tryz.ntmps195 rfl ?_
 refine am (ai (ay (4,0) aa rfl rfl) (ba rfl (aj (am (aR rfl (ai (bc _ _ rfl rfl (bq ab)) ?_))))))
 refine ba rfl (aj (aq (am (dJ rfl (aR rfl (ai (jX _ _ Tryz.underlying9 rfl rfl (by assumption)) ?_))))))
 refine ai (aJ aa al (mS b) rfl rfl) ?_
 refine aj (aV rfl (fun hc15=> ?_) (fun hc15=> ?_))
 ·skip
  obtain ⟨htl,hte⟩:=pu hb hc15 ht
  refine aG fun K5 hK5=> ?_
  refine au ?_
  refine bC (α:=Nat) (fun e=> a+1≤e∧e≤s.length∧kh qX s e=kh qX s (a+1)) 101 [(0,_),(1,_),(4,_)] [((4,0),_)] (fun e=> [(6, .v (.int .i64 (e:Int)))]) (fun e=> []) [] [] (fun e=> s.length - e) (a+1) ?_ (by
   refine Le.mkJ [] [] rfl ?_ ?_ trivial trivial ?_
   ·exact ⟨(iV rfl),(iV rfl),(iP rfl),(cj ag),trivial⟩
   ·exact ⟨(cG rfl rfl rfl),trivial⟩
   ·kernel_rfl) ?_
  ·exact ⟨Nat.le_refl _,by omega,rfl⟩
  intro e he
  obtain ⟨he1,he2,het⟩:=he
  refine aG fun K6 hK6=> ?_
  refine aG fun K7 hK7=> ?_
  refine an (aR rfl (dJ rfl (ai (gu _ Tryz.underlying9 rfl) (ai (bp _ _ rfl rfl rfl) (cH rfl (dO (fun hg20=> ?_) (fun hg20=> ?_)))))))
  ·skip
   obtain ⟨u,hu⟩:=jf (s:=s) (a:=e) ab
   refine ax rfl rfl (aD _ (rfl:_=AV.v (.string _))) (ax rfl rfl (aD _ (rfl:_=AV.v (.int _ _))) (ax rfl rfl (jX _ _ Tryz.underlying9 rfl rfl (by assumption)) ?_))
   refine ax rfl rfl (aJ aa al (mS u) rfl rfl) ?_
   refine ax rfl rfl (aD _ (rfl:_=AV.v (.bool _))) (dO (fun hg25=> ?_) (fun hg25=> ?_))
   ·skip
    have hnx:kh qX s (e+1)=kh qX s (a+1):=(pX hu (by unfold qX;rw [hg25];rfl)).symm.trans het
    refine aX rfl rfl ah ?_
    refine aX rfl rfl ah ?_
    refine aX rfl rfl ah ?_
    refine aX rfl rfl ah ?_
    refine ax rfl rfl (aF _ _ _ rfl (rfl:_=AV.v (.bool _))) (ai (aF _ _ _ rfl (rfl:_=AV.v (.bool _))) (az (hK7 _ ?_)))
    clear hK7;try clear K7
    refine bD rfl rfl (bA (hK6 _ ?_))
    clear hK6;try clear K6
    refine au ?_
    refine aM (σ':=aB 101 [(0,_),(1,_),(4,_),(6,_)] [((4,0),_)] [] []) kp ?_
    refine an (aR rfl (ai (bc _ _ rfl rfl (bq ab)) ?_))
    refine ba rfl (az (⟨e+1,?_,?_,?_⟩))
    ·exact ⟨by omega,by omega,hnx⟩
    ·skip
     refine Le.mkJ [] [] rfl ?_ ?_ trivial trivial ?_
     ·exact ⟨(iV rfl),(iV rfl),(iP rfl),(cj ag),trivial⟩
     ·exact ⟨(cG rfl rfl rfl),trivial⟩
     ·kernel_rfl
    ·omega
   ·skip
    refine ax rfl rfl (aD _ (rfl:_=AV.v (.string _))) (ax rfl rfl (aD _ (rfl:_=AV.v (.int _ _))) (ax rfl rfl (jX _ _ Tryz.underlying9 rfl rfl (by assumption)) ?_))
    refine ax rfl rfl (aJ aa al (kW u) rfl rfl) ?_
    refine ax rfl rfl (aF _ _ _ rfl (rfl:_=AV.v (.bool _))) (ai (aF _ _ _ rfl (rfl:_=AV.v (.bool _))) (az (hK7 _ ?_)))
    clear hK7;try clear K7
    refine aV rfl (fun hc31=> ?_) (fun hc31=> ?_)
    ·skip
     have hnx:kh qX s (e+1)=kh qX s (a+1):=(pX hu (by unfold qX;rw [hg25,hc31];rfl)).symm.trans het
     refine bA (hK6 _ ?_)
     clear hK6;try clear K6
     refine au ?_
     refine aM (σ':=aB 101 [(0,_),(1,_),(4,_),(6,_)] [((4,0),_)] [] []) kp ?_
     refine an (aR rfl (ai (bc _ _ rfl rfl (bq ab)) ?_))
     refine ba rfl (az (⟨e+1,?_,?_,?_⟩))
     ·exact ⟨by omega,by omega,hnx⟩
     ·skip
      refine Le.mkJ [] [] rfl ?_ ?_ trivial trivial ?_
      ·exact ⟨(iV rfl),(iV rfl),(iP rfl),(cj ag),trivial⟩
      ·exact ⟨(cG rfl rfl rfl),trivial⟩
      ·kernel_rfl
     ·omega
    ·skip
     have hfin:e=kh qX s (a+1):=(yi hu (by unfold qX;rw [hg25,hc31];rfl)).symm.trans het
     refine bL (id (hK5 _ ?_))
     clear hK5;try clear K5
     refine aq (aq ?_)
     refine aM (σ':=aB 101 [(0,_),(1,_),(4,_),(6,_)] [((4,0),_)] [] []) kp ?_
     refine an (aR rfl (aR rfl (ai (ca _ _ rfl rfl (bq ab)) ?_)))
     refine ai (dq _ _ rfl rfl rfl) (aj (aQ rfl (decide_eq_false ab) ?_))
     refine aI (am (aR rfl (dJ rfl (aR rfl (aR rfl (ai (jV _ _ _ Tryz.underlying9 rfl _ _ (.lit rfl rfl) (.lit rfl rfl) ab ab rfl) ?_))))))
     refine ai (aA _ aa rfl (by exact (rfl:_=some [_,_,_,_]))) ?_
     refine bO rfl rfl rfl rfl rfl rfl (ba rfl (aj (aC ?_)))
     subst hte;subst hfin
     exact lK (.inr rfl) rfl (.cellA aa rfl rfl rfl) (.tmp (rfl:_=AV.v _)) (Le.out [] [] (.tup rfl lz) rfl rfl rfl trivial trivial)
  ·skip
   have hfin:e=kh qX s (a+1):=(uv ab).symm.trans het
   refine aX rfl rfl ah ?_
   refine aX rfl rfl ah ?_
   refine aX rfl rfl ah ?_
   refine aX rfl rfl ah ?_
   refine aX rfl rfl ah ?_
   refine mJ rfl rfl (mJ rfl rfl (mJ rfl rfl (mJ rfl rfl (aX rfl rfl ah ?_))))
   refine ai (aF _ _ _ rfl (rfl:_=AV.v (.bool _))) (az (hK7 _ ?_))
   clear hK7;try clear K7
   refine aQ rfl rfl (bL (id (hK5 _ ?_)))
   clear hK5;try clear K5
   refine aq (aq ?_)
   refine aM (σ':=aB 101 [(0,_),(1,_),(4,_),(6,_)] [((4,0),_)] [] []) kp ?_
   refine an (aR rfl (aR rfl (ai (ca _ _ rfl rfl (bq ab)) ?_)))
   refine ai (dq _ _ rfl rfl rfl) (aj (aQ rfl (decide_eq_false ab) ?_))
   refine aI (am (aR rfl (dJ rfl (aR rfl (aR rfl (ai (jV _ _ _ Tryz.underlying9 rfl _ _ (.lit rfl rfl) (.lit rfl rfl) ab ab rfl) ?_))))))
   refine ai (aA _ aa rfl (by exact (rfl:_=some [_,_,_,_]))) ?_
   refine bO rfl rfl rfl rfl rfl rfl (ba rfl (aj (aC ?_)))
   subst hte;subst hfin
   exact lK (.inr rfl) rfl (.cellA aa rfl rfl rfl) (.tmp (rfl:_=AV.v _)) (Le.out [] [] (.tup rfl lz) rfl rfl rfl trivial trivial)
 ·skip
  have hlb:=hc15
  refine aI (aq (am (dJ rfl (aR rfl (ai (jX _ _ Tryz.underlying9 rfl rfl (by assumption)) ?_)))))
  refine ai (aJ aa al (kW b) rfl rfl) ?_
  refine aj (aV rfl (fun hc48=> ?_) (fun hc48=> ?_))
  ·skip
   obtain ⟨htd,htv,hte⟩:=rI hb hlb hc48 ht
   refine aG fun K16 hK16=> ?_
   refine au ?_
   refine bC (α:=Nat) (fun e=> a+1≤e∧e≤s.length∧kh fL s e=kh fL s (a+1)) 101 [(0,_),(1,_),(4,_)] [((4,0),_)] (fun e=> [(6, .v (.int .i64 (e:Int)))]) (fun e=> []) [] [] (fun e=> s.length - e) (a+1) ?_ (by
    refine Le.mkJ [] [] rfl ?_ ?_ trivial trivial ?_
    ·exact ⟨(iV rfl),(iV rfl),(iP rfl),(cj ag),trivial⟩
    ·exact ⟨(cG rfl rfl rfl),trivial⟩
    ·kernel_rfl) ?_
   ·exact ⟨Nat.le_refl _,by omega,rfl⟩
   intro e he
   obtain ⟨he1,he2,het⟩:=he
   refine aG fun K17 hK17=> ?_
   refine aG fun K18 hK18=> ?_
   refine an (aR rfl (dJ rfl (ai (gu _ Tryz.underlying9 rfl) (ai (bp _ _ rfl rfl rfl) (cH rfl (dO (fun hg53=> ?_) (fun hg53=> ?_)))))))
   ·skip
    obtain ⟨u,hu⟩:=jf (s:=s) (a:=e) ab
    refine ax rfl rfl (aD _ (rfl:_=AV.v (.string _))) (ax rfl rfl (aD _ (rfl:_=AV.v (.int _ _))) (ax rfl rfl (jX _ _ Tryz.underlying9 rfl rfl (by assumption)) ?_))
    refine ax rfl rfl (aJ aa al (kW u) rfl rfl) ?_
    refine ai (aF _ _ _ rfl (rfl:_=AV.v (.bool _))) (az (hK18 _ ?_))
    clear hK18;try clear K18
    refine aV rfl (fun hc58=> ?_) (fun hc58=> ?_)
    ·skip
     have hnx:kh fL s (e+1)=kh fL s (a+1):=(pX hu hc58).symm.trans het
     refine bA (hK17 _ ?_)
     clear hK17;try clear K17
     refine au (an (aR rfl (ai (bc _ _ rfl rfl (bq ab)) ?_)))
     refine ba rfl (az (⟨e+1,?_,?_,?_⟩))
     ·exact ⟨by omega,by omega,hnx⟩
     ·skip
      refine Le.mkJ [] [] rfl ?_ ?_ trivial trivial ?_
      ·exact ⟨(iV rfl),(iV rfl),(iP rfl),(cj ag),trivial⟩
      ·exact ⟨(cG rfl rfl rfl),trivial⟩
      ·kernel_rfl
     ·omega
    ·skip
     have hfin:e=kh fL s (a+1):=(yi hu hc58).symm.trans het
     refine bL (id (hK16 _ ?_))
     clear hK16;try clear K16
     refine am (dJ rfl (aR rfl (aR rfl (ai (jV _ _ _ Tryz.underlying9 rfl _ _ (.lit rfl rfl) (.lit rfl rfl) ab ab rfl) ?_))))
     refine ai (aJ aa al (ny ((s.drop a).take (e - a)) (by simp;omega) (by rw [hfin];exact htd) (by rw [hfin];exact htv)) rfl rfl) ?_
     refine ba rfl (aj (aq (aq ?_)))
     refine aM (σ':=aB 101 [(0,_),(1,_),(4,_),(6,_),(7,_)] [((4,0),_)] [] []) kp ?_
     refine an (aR rfl (ai (bp _ _ rfl rfl rfl) (aj (aQ rfl (decide_eq_false ab) ?_))))
     refine aI (am (aR rfl (dJ rfl (aR rfl (aR rfl (ai (jV _ _ _ Tryz.underlying9 rfl _ _ (.lit rfl rfl) (.lit rfl rfl) ab ab rfl) ?_))))))
     refine aR rfl (ai (aA _ aa rfl (by exact (rfl:_=some [_,_,_,_]))) ?_)
     refine bO rfl rfl rfl rfl rfl rfl (ba rfl (aj (aC ?_)))
     subst hte;subst hfin
     exact lK (.inr rfl) rfl (.cellA aa rfl rfl rfl) (.tmp (rfl:_=AV.v _)) (Le.out [] [] (.tup rfl lz) rfl rfl rfl trivial trivial)
   ·skip
    have hfin:e=kh fL s (a+1):=(uv ab).symm.trans het
    refine aX rfl rfl ah ?_
    refine aX rfl rfl ah ?_
    refine aX rfl rfl ah ?_
    refine aX rfl rfl ah ?_
    refine ai (aF _ _ _ rfl (rfl:_=AV.v (.bool _))) (az (hK18 _ ?_))
    clear hK18;try clear K18
    refine aQ rfl rfl (bL (id (hK16 _ ?_)))
    clear hK16;try clear K16
    refine am (dJ rfl (aR rfl (aR rfl (ai (jV _ _ _ Tryz.underlying9 rfl _ _ (.lit rfl rfl) (.lit rfl rfl) ab ab rfl) ?_))))
    refine ai (aJ aa al (ny ((s.drop a).take (e - a)) (by simp;omega) (by rw [hfin];exact htd) (by rw [hfin];exact htv)) rfl rfl) ?_
    refine ba rfl (aj (aq (aq ?_)))
    refine aM (σ':=aB 101 [(0,_),(1,_),(4,_),(6,_),(7,_)] [((4,0),_)] [] []) kp ?_
    refine an (aR rfl (ai (bp _ _ rfl rfl rfl) (aj (aQ rfl (decide_eq_false ab) ?_))))
    refine aI (am (aR rfl (dJ rfl (aR rfl (aR rfl (ai (jV _ _ _ Tryz.underlying9 rfl _ _ (.lit rfl rfl) (.lit rfl rfl) ab ab rfl) ?_))))))
    refine aR rfl (ai (aA _ aa rfl (by exact (rfl:_=some [_,_,_,_]))) ?_)
    refine bO rfl rfl rfl rfl rfl rfl (ba rfl (aj (aC ?_)))
    subst hte;subst hfin
    exact lK (.inr rfl) rfl (.cellA aa rfl rfl rfl) (.tmp (rfl:_=AV.v _)) (Le.out [] [] (.tup rfl lz) rfl rfl rfl trivial trivial)
  ·skip
   have hsy:=ru hb hlb hc48 ht
   refine aI (am (dJ rfl (aR rfl (aR rfl (ai (bc _ _ rfl rfl (bq ab)) ?_)))))
   refine dJ rfl (ai (gu _ Tryz.underlying9 rfl) (ai (tL _ _ rfl rfl rfl) (ai (jV _ _ _ Tryz.underlying9 rfl a (min (a+2) s.length) (.lit rfl rfl) (.lit rfl ab) ab ab (vu ha)) ?_)))
   refine jb rfl (aj (aq (aq ?_)))
   refine aM (σ':=aB 101 [(0,_),(1,_),(4,_),(6,_),(8,_)] [((4,0),_)] [] []) kp ?_
   refine an (ai (aU _ _ aa rfl ag (by (simp <;> rfl)) ah rfl) ?_)
   refine dJ rfl (ai (aJ aa al (oF AM 6 rfl ab ((s.drop a).take 2)) rfl rfl) ?_)
   refine aj (aV rfl (fun hc86=> ?_) (fun hc86=> ?_))
   ·skip
    have hte:t=⟨3,a,(s.drop a).take 2,0⟩:=hsy.elim (·.2) fun h=> absurd hc86 h.1
    refine am (aR rfl (dJ rfl (ai (aA _ aa rfl (by exact (rfl:_=some [_,_,_,_]))) ?_)))
    refine bO rfl rfl rfl rfl rfl rfl (ba rfl (aj (aC ?_)))
    subst hte
    exact lK (.inr rfl) rfl (.cellA aa rfl rfl rfl) (.tmp (rfl:_=AV.v _)) (Le.out [] [] (.tup rfl lz) rfl rfl rfl trivial trivial)
   ·skip
    obtain ⟨_,hs1,hte⟩:=hsy.resolve_left fun h=> hc86 h.1
    refine aI (am (dJ rfl (aR rfl (aR rfl (ai (jV _ _ _ Tryz.underlying9 rfl a (a+1) (.lit rfl rfl) (.lit rfl rfl) ab ab (by rw [Nat.add_sub_cancel_left])) ?_)))))
    refine jb rfl (aj (aq (am (ai (aU _ _ aa rfl ag (by (simp <;> rfl)) ah rfl) ?_))))
    refine dJ rfl (ai (aJ aa al (oF DM 16 rfl ab ((s.drop a).take 1)) rfl rfl) ?_)
    refine aj (bD rfl (decide_eq_true hs1) ?_)
    refine am (aR rfl (dJ rfl (ai (aA _ aa rfl (by exact (rfl:_=some [_,_,_,_]))) ?_)))
    refine bO rfl rfl rfl rfl rfl rfl (ba rfl (aj (aC ?_)))
    subst hte
    exact lK (.inr rfl) rfl (.cellA aa rfl rfl rfl) (.tmp (rfl:_=AV.v _)) (Le.out [] [] (.tup rfl lz) rfl rfl rfl trivial trivial)
theorem lk {f:Nat} {s:Tx} {a:Nat} {l:List Tk} (h:mj (f+1) s a=some l):(s.length≤a∧l=[⟨0,s.length,[],0⟩])∨(a < s.length∧ ∃ t m,oP (s.drop a) a=some t∧mj f s (jy s (a+t.t.length) false)=some m∧l=t::m):=by
 unfold mj at h
 split at h
 ·exact .inl ⟨by assumption,(Option.some.inj h).symm⟩
 ·split at h
  ·cases h
  ·split at h
   ·cases h
   ·rename_i t ht _ m hm
    exact .inr ⟨by omega,t,m,ht,hm,(Option.some.inj h).symm⟩
theorem rH {s:Tx} {a:Nat} {t:Tk} (ha:a < s.length) (h:oP (s.drop a) a=some t):0 < t.t.length∧a+t.t.length≤s.length:=by
 obtain ⟨b,hb⟩:=jf ha
 have key: ∀ k,0 < k→0 < ((s.drop a).take k).length∧a+((s.drop a).take k).length≤s.length:=fun k hk=> by rw [List.length_take,List.length_drop];omega
 cases h1:lX b with
 | true=> obtain ⟨_,rfl⟩:=pu hb h1 h;exact key _ (by have:=qv (p:=qX) (s:=s) (a:=a+1) ab;omega)
 | false=>
  cases h2:fL b with
  | true=> obtain ⟨_,_,rfl⟩:=rI hb h1 h2 h;exact key _ (by have:=qv (p:=fL) (s:=s) (a:=a+1) ab;omega)
  | false=>
   rcases ru hb h1 h2 h with ⟨_,rfl⟩ | ⟨_,_,rfl⟩
   ·exact key _ ab
   ·exact key _ ab
def CY (s:Tx) (l:List Tk) (z:Nat×List Tk):Prop:=z.1≤s.length∧z.2.length≤z.1∧ ∃ f m,mj f s z.1=some m∧l=z.2++m
theorem rm (s:Tx) (h1:s.length≤100000) (l:List Tk) (hl:zS s=some l):
  Spec Tryz.prog 159 (bi [.v (bt s)] []) (aW (.tup [.sl l.length (qf l), .v (.int .i64 0), .v (.int .i64 0)]) []):=by
 have hs0:=sR (s:=s) (a:=0) (Nat.zero_le _) false
 refine Spec.ofN Tryz.func159 rfl Tryz.ntmps159 rfl ?_
 refine am (ai (bH _ (rfl:_=AV.v (.slice _ _ _))) (ba rfl (ba rfl (aj (am (ai (nZ (5,0) _ 225 4 rfl rfl) ?_))))))
 refine aj (am (dJ rfl (ai (aJ aa al (pQ s 0 h1 (Nat.zero_le _)) rfl rfl) ?_)))
 refine ba rfl (aj (aG fun K4 hK4=> ?_))
 refine au ?_
 refine bC (α:=Nat×List Tk) (fun z=> CY s l z) 42 [(0,_)] [] (fun z=> [(6, .v (.int .i64 (z.1:Int))),(5, .ref (5,0) 0 z.2.length)]) (fun z=> [((5,0), .row 225 4 (qf z.2))]) [] [] (fun z=> s.length - z.1) (jy s 0 false,[]) ?_ (by
  refine Le.mkJ [] [] rfl ?_ ?_ trivial trivial ?_
  ·exact ⟨(iV rfl),(cj ag),(dc rfl ag),trivial⟩
  ·exact ⟨(gH rfl rfl rfl ag),trivial⟩
  ·kernel_rfl) ?_
 ·exact ⟨hs0.2,Nat.zero_le _,s.length+1,l,by rw [← hl];unfold zS jy;rw [List.drop_zero,Nat.zero_add],rfl⟩
 intro z hz
 obtain ⟨hz1,hz2,f,m,hf,hlm⟩:=hz
 obtain ⟨f,rfl⟩: ∃ g,f=g+1:=by cases f with | zero=> (simp [mj] at hf) | succ g=> exact ⟨g,rfl⟩
 refine aG fun K5 hK5=> ?_
 refine am (aR rfl (dJ rfl (ai (gu _ Tryz.underlying9 rfl) (ai (bp _ _ rfl rfl rfl) (aj (aV rfl (fun hc14=> ?_) (fun hc14=> ?_)))))))
 ·skip
  obtain ⟨_,t,m',ht,hm',hm⟩:=(lk hf).resolve_left fun h=> by omega
  obtain ⟨htl,hta⟩:=rH ab ht
  have hsk:=sR (s:=s) (a:=z.1+t.t.length) hta false
  have hlen:(z.2++[t]).length=z.2.length+1:=by simp
  refine bA (hK5 _ ?_)
  clear hK5;try clear K5
  refine au (am (dJ rfl (aR rfl (ai (aJ aa al (tj s z.1 h1 ab t ht) rfl rfl) ?_))))
  refine ai (aD _ (rfl:_=AV.tup _)) (ai (cR _ rfl (rfl:_=some (AV.agg _))) (ai (cR _ rfl (rfl:_=some (AV.v (.int _ _)))) (ai (ay (7,0) aa rfl rfl) (bO rfl rfl rfl rfl rfl rfl (ba rfl (aj (aq (am (aR rfl (ai (bY (r:=false) _ _ rfl rfl rfl) ?_))))))))))
  refine aj (aQ rfl rfl (aI (aq ?_)))
  refine aM (σ':=aB 42 [(0,_),(5,_),(6,_),(7,_)] [((5,0),_),((7,0),_)] [] []) kp ?_
  refine an (gG rfl (ai (aP _ aa rfl rfl rfl rfl) (ai (aU _ _ aa rfl ag (by (simp <;> rfl)) ah rfl) ?_)))
  refine ai (dg (28,0) _ _ aa rfl rfl (bv _).symm (.sl rfl) ab rfl (ra _ _) hlen.symm) ?_
  refine eZ rfl (aj (an (dJ rfl (aR rfl (bF rfl rfl rfl (ai (aN _ aa rfl rfl (rfl:_=some (AV.v (.string _)))) (ai (gu _ Tryz.underlying9 rfl) (ai (bc _ _ rfl rfl (bq ab)) ?_))))))))
  refine ai (aJ aa al (pQ s (z.1+t.t.length) h1 hta) rfl rfl) ?_
  refine ba rfl (az (⟨(jy s (z.1+t.t.length) false,z.2++[t]),?_,?_,?_⟩))
  ·exact ⟨hsk.2,by simp only;omega,f,m',hm',by rw [hlm,hm];simp⟩
  ·skip
   refine Le.mkJ [((5,0),(28,0))] [] rfl ?_ ?_ trivial trivial ?_
   ·exact ⟨(by repeat' (exact Lv.v)),(cj ag),(dc rfl ag),trivial⟩
   ·exact ⟨(gH rfl rfl rfl ag),trivial⟩
   ·kernel_rfl
  ·simp only;omega
 ·skip
  obtain ⟨_,hm⟩:=(lk hf).resolve_right fun h=> by omega
  have hlen:(z.2++[(⟨0,s.length,[],0⟩:Tk)]).length=z.2.length+1:=by simp
  rw [hm] at hlm;subst hlm
  refine bL (id (hK4 _ ?_))
  clear hK4;try clear K4
  refine am (gG rfl (dJ rfl (ai (gu _ Tryz.underlying9 rfl) (ai (aA _ aa rfl (by exact (rfl:_=some [_,_,_,_]))) ?_))))
  refine ai (aU _ _ aa rfl ag (by (simp <;> rfl)) ah rfl) ?_
  refine ai (dg (41,0) _ _ aa rfl rfl (bv _).symm (.sl rfl) ab rfl (ra _ ⟨0,s.length,[],0⟩) hlen.symm) ?_
  exact eZ rfl (ba rfl (ba rfl (aj (aC (zX (.inr rfl) rfl (.tmp (rfl:_=AV.ref _ _ _)) (.tmp (rfl:_=AV.v _)) (.tmp (rfl:_=AV.v _)) (Le.out [] [(41,0)] (.tup rfl (aH (iy rfl rfl (bv _).symm rfl) lz)) rfl rfl rfl tr trivial))))))

theorem cw (l:List Tx) (n:Nat) (hn:l.length=n) (h1:n≤1000) (t:Tx):Spec Tryz.prog 199 (bi [.sl n (dU l), .v (bt t)] []) (aW (.v (.bool (decide (t∈l)))) []):=by
 refine Spec.ofN Tryz.func199 rfl Tryz.ntmps199 rfl ?_
 refine am (cq rfl (aj (aG fun K2 hK2=> ?_)))
 refine am (ba rfl (aj (au ?_)))
 refine bC (α:=Nat) (fun k=> k≤n∧t∉l.take k) 18 [(0,_),(1,_)] [] (fun k=> [(5, .v (.int .i64 (k:Int)))]) (fun k=> []) [] [] (fun k=> n - k) 0 ?_ (by
  refine Le.mkJ [] [] rfl ?_ ?_ trivial trivial ?_
  ·exact ⟨(iS rfl),(iV rfl),(cj ag),trivial⟩
  ·exact trivial
  ·kernel_rfl) ?_
 ·exact ⟨Nat.zero_le _,by simp⟩
 intro k hk
 obtain ⟨hk,hnt⟩:=hk
 refine aG fun K4 hK4=> ?_
 refine am (aR rfl (ep rfl (ai (bG _ aa rfl) (ai (bp _ _ rfl rfl rfl) (aj (aV rfl (fun hc9=> ?_) (fun hc9=> ?_)))))))
 ·skip
  refine bA (hK4 _ ?_)
  clear hK4;try clear K4
  refine aq (au (am (ep rfl (aR rfl (ai (bf _ _ aa rfl rfl _ rfl ab (by (simp only [aZ,bm,bl,bw,bv];omega)) (by exact Nat.mul_one _)) ?_)))))
  refine ai (bB _ aa rfl (by exact fv _ _ ab) rfl) ?_
  refine dJ rfl (ai (aT _ _ Tryz.underlying9 rfl rfl rfl) (aj (aV rfl (fun hc17=> ?_) (fun hc17=> ?_))))
  ·skip
   refine am (cq rfl (aj (aC (aY (.inr rfl) rfl (.tmp (rfl:_=AV.v (.bool _))) (Le.out [] [] (ie ?_) rfl rfl rfl trivial trivial)))))
   exact decide_eq_true (hc17 ▸ iX ab)
  ·skip
   refine cf (an (aR rfl (ai (bc _ _ rfl rfl (bq ab)) ?_)))
   refine ba rfl (az (⟨k+1,?_,?_,?_⟩))
   ·exact ⟨by omega,jj hnt ab hc17⟩
   ·skip
    refine Le.mkJ [] [] rfl ?_ ?_ trivial trivial ?_
    ·exact ⟨(iS rfl),(iV rfl),(cj ag),trivial⟩
    ·exact trivial
    ·kernel_rfl
   ·omega
 ·skip
  have hall:t∉l:=by rwa [List.take_of_length_le ab] at hnt
  refine bL (id (hK2 _ ?_))
  clear hK2;try clear K2
  refine am (cq rfl (aj (aC (aY (.inr rfl) rfl (.tmp (rfl:_=AV.v (.bool _))) (Le.out [] [] (ie ?_) rfl rfl rfl trivial trivial)))))
  exact decide_eq_false hall
theorem eD:Spec Tryz.prog 205 (bi [] []) (aW (.sl 9 (dU bltT)) []):=by
 refine Spec.ofN Tryz.func205 rfl Tryz.ntmps205 rfl ?_
 refine am (ai (bH _ (rfl:_=AV.v (.slice _ _ _))) (aj (am (ai (aU _ _ aa rfl ag (by (simp <;> rfl)) ah rfl) ?_))))
 exact jO rfl (aj (aC (aY (.inr rfl) rfl (.tmp (rfl:_=AV.sl _ _)) (Le.out [] [] .sl rfl rfl rfl trivial trivial))))
theorem kH (t:Tx):Spec Tryz.prog 225 (bi [.v (bt t)] []) (aW (.v (.bool (tD t))) []):=by
 refine Spec.ofN Tryz.func225 rfl Tryz.ntmps225 rfl ?_
 refine am (cq rfl (aj (am (ai (aJ aa (by repeat' (exact dK)) (eD) rfl rfl) ?_))))
 refine dJ rfl (ai (aJ aa al (cw bltT 9 rfl ab t) rfl rfl) ?_)
 refine cH rfl (dO (fun hg6=> ?_) (fun hg6=> ?_))
 ·skip
  refine aX rfl rfl ah ?_
  refine aX rfl rfl ah ?_
  refine aX rfl rfl ah ?_
  refine ai (aF _ _ _ rfl (rfl:_=AV.v (.bool _))) (cq rfl (aj (aC (aY (.inr rfl) rfl (.tmp (rfl:_=AV.v (.bool _))) (Le.out [] [] (ie ?_) rfl rfl rfl trivial trivial)))))
  unfold tD
  (rw [decide_eq_true hg6];rfl)
 ·skip
  refine ax rfl rfl (aU _ _ aa rfl ag (by (simp <;> rfl)) ah rfl) ?_
  refine ax rfl rfl (aD _ (rfl:_=AV.v (.string _))) (ax rfl rfl (aJ aa al (cw OM 19 rfl ab t) rfl rfl) ?_)
  refine ai (aF _ _ _ rfl (rfl:_=AV.v (.bool _))) (cq rfl (aj (aC (aY (.inr rfl) rfl (.tmp (rfl:_=AV.v (.bool _))) (Le.out [] [] (ie ?_) rfl rfl rfl trivial trivial)))))
  unfold tD
  (rw [decide_eq_false hg6];rfl)
theorem dM {T:List Tk} {i:Nat} (h:i < T.length):bQ T i < T.length:=by unfold bQ;split <;> omega
abbrev dD (T:List Tk) (i:Nat) (N:List Tx):List (aE×Cells):=[((0,9), .box 222 [.sl T.length (qf T), .v (.int .i64 (i:Int)), .v (.int .i64 0), .v (.int .i64 0), .sl N.length (dU N)])]
theorem bT (T:List Tk) (i:Nat) (N:List Tx) (hi:i < T.length):
  Spec Tryz.prog 160 (be [.ptr (0,9) 0] (dD T i N)) (bg (.v (bt (cX T i).t)) (dD T i N) [(0,9)] [(0,9)]):=by
 refine Spec.ofNI Tryz.func160 rfl Tryz.ntmps160 rfl ?_
 refine am (jb rfl (aj (aq (bE 12 [3,4,5,6,7,8,9,10,11,12,13,2] [] ae ae rfl (aL rfl) (rfl:_=[_,_,_,_,_,_,_,_,_,_,_,_]) (rfl:_=[]) ?_))))
 refine ap (_,[]) (fun τ=> aD _ (rfl:_=AV.ptr _ _)) ?_
 refine eL rfl ?_
 refine ap (_,[]) (fun τ=> aS _ rfl rfl) ?_
 refine eK rfl ?_
 refine ap (_,[]) (fun τ=> aK _ aa rfl rfl rfl) ?_
 refine eM rfl ?_
 refine ap (_,[]) (fun τ=> aN _ aa rfl rfl (rfl:_=some (AV.sl _ _))) ?_
 refine eP rfl ?_
 refine ap (_,[]) (fun τ=> aD _ (rfl:_=AV.ptr _ _)) ?_
 refine fe rfl ?_
 refine ap (_,[]) (fun τ=> aS _ rfl rfl) ?_
 refine fB rfl ?_
 refine ap (_,[]) (fun τ=> aK _ aa rfl rfl rfl) ?_
 refine gy rfl ?_
 refine ap (_,[]) (fun τ=> aN _ aa rfl rfl (rfl:_=some (AV.v (.int _ _)))) ?_
 refine jS rfl ?_
 refine ap (_,[]) (fun τ=> bf _ _ aa rfl rfl _ rfl ab (by (simp only [aZ,bm,bl,bw,bv];omega)) ag) ?_
 refine kd rfl ?_
 refine ap (_,[]) (fun τ=> di _ aa rfl rfl) ?_
 refine fW rfl ?_
 refine ap (_,[]) (fun τ=> bB _ aa rfl (by exact me _ _ ab) rfl) ?_
 refine gA rfl ?_
 refine ap (_,[]) (fun τ=> bH _ (rfl:_=AV.v (.string _))) ?_
 refine kA rfl (bh ⟨rfl,?_⟩)
 exact aj (aC (aY (.inr rfl) rfl (.tmp (rfl:_=AV.v _)) (Le.outI [] [] .v rfl rfl rfl trivial ob tr rfl)))
theorem dC (T:List Tk) (i:Nat) (N:List Tx) (hi:i < T.length):
  Spec Tryz.prog 197 (be [.ptr (0,9) 0] (dD T i N)) (bg (.v (.bool (dZ T i))) (dD T i N) [(0,9)] [(0,9)]):=by
 refine Spec.ofNI Tryz.func197 rfl Tryz.ntmps197 rfl ?_
 refine am (cq rfl (aj (aq (bE 28 [3,4,5,6,7,8,9,10,11,12,13,14,15,16,17,18,19,20,21,22,23,24,25,26,27,28,29,2] [] ae ae rfl (aL rfl) (rfl:_=[_,_,_,_,_,_,_,_,_,_,_,_,_,_,_,_,_,_,_,_,_,_,_,_,_,_,_,_]) (rfl:_=[]) ?_))))
 refine ap (_,[]) (fun τ=> aD _ (rfl:_=AV.ptr _ _)) ?_
 refine eL rfl ?_
 refine ap (_,[]) (fun τ=> aS _ rfl rfl) ?_
 refine eK rfl ?_
 refine ap (_,[]) (fun τ=> aK _ aa rfl rfl rfl) ?_
 refine eM rfl ?_
 refine ap (_,[]) (fun τ=> aN _ aa rfl rfl (rfl:_=some (AV.sl _ _))) ?_
 refine eP rfl ?_
 refine ap (_,[]) (fun τ=> aD _ (rfl:_=AV.ptr _ _)) ?_
 refine fe rfl ?_
 refine ap (_,[]) (fun τ=> aS _ rfl rfl) ?_
 refine fB rfl ?_
 refine ap (_,[]) (fun τ=> aK _ aa rfl rfl rfl) ?_
 refine gy rfl ?_
 refine ap (_,[]) (fun τ=> aN _ aa rfl rfl (rfl:_=some (AV.v (.int _ _)))) ?_
 refine jS rfl ?_
 refine ap (_,[]) (fun τ=> bf _ _ aa rfl rfl _ rfl ab (by (simp only [aZ,bm,bl,bw,bv];omega)) ag) ?_
 refine kd rfl ?_
 refine ap (_,[]) (fun τ=> di _ aa rfl rfl) ?_
 refine fW rfl ?_
 refine ap (_,[]) (fun τ=> bB _ aa rfl (by exact oI _ _ ab) rfl) ?_
 refine gA rfl ?_
 refine ap (_,[]) (fun τ=> bR _ _ rfl rfl rfl) ?_
 refine kA rfl ?_
 refine ap (_,[]) (fun τ=> aD _ (rfl:_=AV.v (.bool _))) ?_
 refine mu (fun hg15=> ?_) (fun hg15=> ?_)
 ·skip
  have hr:dZ T i= !tD (cX T i).t:=by unfold dZ;rw [decide_eq_true ab];rfl
  refine kP rfl ?_
  refine bV (_,[]) rfl (fun τ=> rfl) (fun τ=> aD _ (rfl:_=AV.ptr _ _)) ?_
  refine nK rfl ?_
  refine bV (_,[]) rfl (fun τ=> rfl) (fun τ=> aS _ rfl rfl) ?_
  refine tv rfl ?_
  refine bV (_,[]) rfl (fun τ=> rfl) (fun τ=> aK _ aa rfl rfl rfl) ?_
  refine sG rfl ?_
  refine bV (_,[]) rfl (fun τ=> rfl) (fun τ=> aN _ aa rfl rfl (rfl:_=some (AV.sl _ _))) ?_
  refine wu rfl ?_
  refine bV (_,[]) rfl (fun τ=> rfl) (fun τ=> aD _ (rfl:_=AV.ptr _ _)) ?_
  refine vC rfl ?_
  refine bV (_,[]) rfl (fun τ=> rfl) (fun τ=> aS _ rfl rfl) ?_
  refine va rfl ?_
  refine bV (_,[]) rfl (fun τ=> rfl) (fun τ=> aK _ aa rfl rfl rfl) ?_
  refine zN rfl ?_
  refine bV (_,[]) rfl (fun τ=> rfl) (fun τ=> aN _ aa rfl rfl (rfl:_=some (AV.v (.int _ _)))) ?_
  refine zQ rfl ?_
  refine bV (_,[]) rfl (fun τ=> rfl) (fun τ=> bf _ _ aa rfl rfl _ rfl ab (by (simp only [aZ,bm,bl,bw,bv];omega)) ag) ?_
  refine zZ rfl ?_
  refine bV (_,[]) rfl (fun τ=> rfl) (fun τ=> di _ aa rfl rfl) ?_
  refine zH rfl ?_
  refine bV (_,[]) rfl (fun τ=> rfl) (fun τ=> bB _ aa rfl (by exact me _ _ ab) rfl) ?_
  refine zU rfl ?_
  refine bV (_,[]) rfl (fun τ=> rfl) (fun τ=> (aJ aa al (kH (cX T i).t) rfl rfl)) ?_
  refine Ag rfl ?_
  refine bV (_,[]) rfl (fun τ=> rfl) (fun τ=> cN _ rfl rfl) ?_
  refine zW rfl ?_
  refine ap (_,[]) (fun τ=> aF _ _ _ rfl (rfl:_=AV.v (.bool _))) ?_
  refine zE rfl ?_
  refine ap (_,[]) (fun τ=> bH _ (rfl:_=AV.v (.bool _))) ?_
  refine By rfl (bh ⟨rfl,?_⟩)
  exact aj (aC (aY (.inr rfl) rfl (.tmp (rfl:_=AV.v (.bool _))) (Le.outI [] [] (ie hr) rfl rfl rfl trivial ob tr rfl)))
 ·skip
  have hr:dZ T i=false:=by unfold dZ;rw [decide_eq_false ab];rfl
  refine kP rfl ?_
  refine cL rfl (fun τ=> rfl) ah ?_
  refine nK rfl ?_
  refine cL rfl (fun τ=> rfl) ah ?_
  refine tv rfl ?_
  refine cL rfl (fun τ=> rfl) ah ?_
  refine sG rfl ?_
  refine cL rfl (fun τ=> rfl) ah ?_
  refine wu rfl ?_
  refine cL rfl (fun τ=> rfl) ah ?_
  refine vC rfl ?_
  refine cL rfl (fun τ=> rfl) ah ?_
  refine va rfl ?_
  refine cL rfl (fun τ=> rfl) ah ?_
  refine zN rfl ?_
  refine cL rfl (fun τ=> rfl) ah ?_
  refine zQ rfl ?_
  refine cL rfl (fun τ=> rfl) ah ?_
  refine zZ rfl ?_
  refine cL rfl (fun τ=> rfl) ah ?_
  refine zH rfl ?_
  refine cL rfl (fun τ=> rfl) ah ?_
  refine zU rfl ?_
  refine cL rfl (fun τ=> rfl) ah ?_
  refine Ag rfl ?_
  refine cL rfl (fun τ=> rfl) ah ?_
  refine zW rfl ?_
  refine ap (_,[]) (fun τ=> aF _ _ _ rfl (rfl:_=AV.v (.bool _))) ?_
  refine zE rfl ?_
  refine ap (_,[]) (fun τ=> bH _ (rfl:_=AV.v (.bool _))) ?_
  refine By rfl (bh ⟨rfl,?_⟩)
  exact aj (aC (aY (.inr rfl) rfl (.tmp (rfl:_=AV.v (.bool _))) (Le.outI [] [] (ie hr) rfl rfl rfl trivial ob tr rfl)))
theorem cm (T:List Tk) (i:Nat) (N:List Tx) (hi:i < T.length) (hT:T.length≤100000):
  Spec Tryz.prog 196 (be [.ptr (0,9) 0] (dD T i N)) (bg (.tup []) (dD T (bQ T i) N) [(0,9)] [(0,9)]):=by
 refine Spec.ofNI Tryz.func196 rfl Tryz.ntmps196 rfl ?_
 refine aq (bE 11 [2,3,4,5,6,7,8,9,10,11,12] [] ae ae rfl (aL rfl) (rfl:_=[_,_,_,_,_,_,_,_,_,_,_]) (rfl:_=[]) ?_)
 refine ap (_,[]) (fun τ=> aD _ (rfl:_=AV.ptr _ _)) ?_
 refine eL rfl ?_
 refine ap (_,[]) (fun τ=> aS _ rfl rfl) ?_
 refine eK rfl ?_
 refine ap (_,[]) (fun τ=> aK _ aa rfl rfl rfl) ?_
 refine eM rfl ?_
 refine ap (_,[]) (fun τ=> aN _ aa rfl rfl (rfl:_=some (AV.v (.int _ _)))) ?_
 refine eP rfl ?_
 refine ap (_,[]) (fun τ=> bc _ _ rfl rfl (bq ab)) ?_
 refine fe rfl ?_
 refine ap (_,[]) (fun τ=> aD _ (rfl:_=AV.ptr _ _)) ?_
 refine fB rfl ?_
 refine ap (_,[]) (fun τ=> aS _ rfl rfl) ?_
 refine gy rfl ?_
 refine ap (_,[]) (fun τ=> aK _ aa rfl rfl rfl) ?_
 refine jS rfl ?_
 refine ap (_,[]) (fun τ=> aN _ aa rfl rfl (rfl:_=some (AV.sl _ _))) ?_
 refine kd rfl ?_
 refine ap (_,[]) (fun τ=> bG _ aa rfl) ?_
 refine fW rfl ?_
 refine ap (_,[]) (fun τ=> bp _ _ rfl rfl rfl) ?_
 refine gA rfl (bh ⟨rfl,?_⟩)
 refine aj (aV rfl (fun hc12=> ?_) (fun hc12=> ?_))
 ·skip
  have ht:bQ T i=i+1:=by unfold bQ;rw [if_pos ab]
  refine an (bj rfl (ai (aS _ rfl rfl) (bF rfl rfl rfl (cI rfl rfl rfl (ai (bc _ _ rfl rfl (bq ab)) ?_)))))
  exact ai (aS _ rfl rfl) (bF rfl rfl rfl (bO rfl rfl rfl rfl rfl rfl (az (eV (.inl rfl) rfl (Le.outI [] [] (.tup rfl br) rfl rfl rfl trivial ⟨⟨rfl,⟨_,rfl, .box rfl (aH .sl (aH (cj (by rw [ht] <;> omega)) lz))⟩,rfl⟩,trivial⟩ tr rfl)))))
 ·skip
  have ht:bQ T i=i:=by unfold bQ;rw [if_neg ab]
  exact bA (eV (.inl rfl) rfl (Le.outI [] [] (.tup rfl br) rfl rfl rfl trivial ⟨⟨rfl,⟨_,rfl, .box rfl (aH .sl (aH (cj (by rw [ht] <;> omega)) lz))⟩,rfl⟩,trivial⟩ tr rfl))
theorem fb (T:List Tk) (i j:Nat) (N:List Tx) (s:Tx) (hi:i < T.length) (hT:T.length≤100000) (h:fU T s i=some j):
  Spec Tryz.prog 162 (be [.ptr (0,9) 0, .v (bt s)] (dD T i N)) (bg (.tup []) (dD T j N) [(0,9)] [(0,9)]):=by
 have ⟨hs,hj⟩:(cX T i).t=s∧bQ T i=j:=by
  unfold fU at h
  split at h
  ·exact ⟨by assumption,Option.some.inj h⟩
  ·cases h
 subst hs
 subst hj
 refine Spec.ofNI Tryz.func162 rfl Tryz.ntmps162 rfl ?_
 refine aq (am (bj rfl (ai (aS _ rfl rfl) (bF rfl rfl rfl (cI rfl rfl rfl (jc rfl rfl rfl (cH rfl (ax rfl rfl (aD _ (rfl:_=AV.ptr _ _)) (ax rfl rfl (bs aa _ _ ar (bT T i N hi) tr rfl ae (by simp)) ?_)))))))))
 refine ax rfl rfl (aD _ (rfl:_=AV.v (.string _))) (ax rfl rfl (qB (r:=false) _ _ Tryz.underlying9 rfl rfl (by exact bne_self_eq_false _)) ?_)
 refine ai (aF _ _ _ rfl (rfl:_=AV.v (.bool _))) (aj (aQ rfl rfl (aI (am (bj rfl (ai (aS _ rfl rfl) (bF rfl rfl rfl (cI rfl rfl rfl (jc rfl rfl rfl (aj ?_))))))))))
 refine bD rfl rfl ?_
 refine aM (σ':=aB 28 [(0,_)] [((0,9),_)] [(0,9)] [(0,9)]) kp ?_
 refine an (bj rfl (ai (aO (cm T i N hi hT)) ?_))
 exact az (eV (.inl rfl) rfl (Le.outI [] [] (.tup rfl br) rfl rfl rfl trivial ob tr rfl))
theorem jn {T:List Tk} {s:Tx} {lv i j:Nat} (h:pO T s lv i=some j):lv≤20∧fU T s i=some j:=by
 unfold pO at h
 split at h
 ·cases h
 ·rename_i hn
  refine ⟨?_,h⟩
  unfold fU at h
  split at h
  ·rename_i ht
   exact Nat.le_of_not_lt fun hl=> hn ⟨ht,hl⟩
  ·cases h
theorem ip {T:List Tk} {s:Tx} {i j:Nat} (h:fU T s i=some j) (hi:i < T.length):j < T.length:=by
 unfold fU at h
 split at h
 ·rw [← Option.some.inj h];exact dM hi
 ·cases h
theorem mm (T:List Tk) (i j:Nat) (N:List Tx) (s:Tx) (lv:Nat) (hi:i < T.length) (hT:T.length≤100000) (h:pO T s lv i=some j):
  Spec Tryz.prog 201 (be [.ptr (0,9) 0, .v (bt s), .v (.int .i64 (lv:Int))] (dD T i N)) (bg (.tup []) (dD T j N) [(0,9)] [(0,9)]):=by
 obtain ⟨hl,he⟩:=jn h
 refine Spec.ofNI Tryz.func201 rfl Tryz.ntmps201 rfl ?_
 refine aq (am (bj rfl (ai (aS _ rfl rfl) (bF rfl rfl rfl (cI rfl rfl rfl (jc rfl rfl rfl (cH rfl (ax rfl rfl (aD _ (rfl:_=AV.ptr _ _)) (ax rfl rfl (bs aa _ _ ar (bT T i N hi) tr rfl ae (by simp)) ?_)))))))))
 refine ax rfl rfl (aD _ (rfl:_=AV.v (.string _))) (ax rfl rfl (aT _ _ Tryz.underlying9 rfl rfl rfl) (ai (aF _ _ _ rfl (rfl:_=AV.v (.bool _))) (cH rfl (dO (fun hg17=> ?_) (fun hg17=> ?_)))))
 ·skip
  refine ax rfl rfl (aD _ (rfl:_=AV.v (.int _ _))) (ax rfl rfl (dq (r:=false) _ _ rfl rfl (decide_eq_false ab)) ?_)
  refine ai (aF _ _ _ rfl (rfl:_=AV.v (.bool _))) (aj (aQ rfl rfl (aI ?_)))
  refine aM (σ':=aB 30 [(0,_),(1,_)] [((0,9),_)] [(0,9)] [(0,9)]) kp ?_
  refine an (bj rfl (dJ rfl (ai (aO (fb T i j N s hi hT he)) ?_)))
  exact az (eV (.inl rfl) rfl (Le.outI [] [] (.tup rfl br) rfl rfl rfl trivial ob tr rfl))
 ·skip
  refine aX rfl rfl ah ?_
  refine aX rfl rfl ah ?_
  refine ai (aF _ _ _ rfl (rfl:_=AV.v (.bool _))) (aj (aQ rfl rfl (aI ?_)))
  refine aM (σ':=aB 30 [(0,_),(1,_)] [((0,9),_)] [(0,9)] [(0,9)]) kp ?_
  refine an (bj rfl (dJ rfl (ai (aO (fb T i j N s hi hT he)) ?_)))
  exact az (eV (.inl rfl) rfl (Le.outI [] [] (.tup rfl br) rfl rfl rfl trivial ob tr rfl))
theorem jW (T:List Tk) (i:Nat) (N:List Tx) (most:Nat) (hi:i < T.length) (hT:T.length≤100000) (hm:most≤1000) (r:Nat×Nat) (h:mZ T most i=some r):
  Spec Tryz.prog 200 (be [.ptr (0,9) 0, .v (.int .i64 (most:Int))] (dD T i N)) (bg (.v (.int .i64 (r.1:Int))) (dD T r.2 N) [(0,9)] [(0,9)]):=by
 have ⟨h1,h2,h3⟩:(cX T i).k=2∧(cX T i).n≤most∧r=((cX T i).n,bQ T i):=by
  unfold mZ at h
  split at h
  ·rename_i hx;exact ⟨hx.1,hx.2,(Option.some.inj h).symm⟩
  ·cases h
 subst h3
 refine Spec.ofNI Tryz.func200 rfl Tryz.ntmps200 rfl ?_
 refine am (ba rfl (aj (aq (bE 11 [6,7,8,9,10,11,12,13,14,15,5] [(5,0)] ae ae rfl (aL rfl) (rfl:_=[_,_,_,_,_,_,_,_,_,_,_]) (rfl:_=[_]) ?_))))
 refine ap (_,[]) (fun τ=> aD _ (rfl:_=AV.ptr _ _)) ?_
 refine eL rfl ?_
 refine ap (_,[]) (fun τ=> aS _ rfl rfl) ?_
 refine eK rfl ?_
 refine ap (_,[]) (fun τ=> aK _ aa rfl rfl rfl) ?_
 refine eM rfl ?_
 refine ap (_,[]) (fun τ=> aN _ aa rfl rfl (rfl:_=some (AV.sl _ _))) ?_
 refine eP rfl ?_
 refine ap (_,[]) (fun τ=> aD _ (rfl:_=AV.ptr _ _)) ?_
 refine fe rfl ?_
 refine ap (_,[]) (fun τ=> aS _ rfl rfl) ?_
 refine fB rfl ?_
 refine ap (_,[]) (fun τ=> aK _ aa rfl rfl rfl) ?_
 refine gy rfl ?_
 refine ap (_,[]) (fun τ=> aN _ aa rfl rfl (rfl:_=some (AV.v (.int _ _)))) ?_
 refine jS rfl ?_
 refine ap (_,[]) (fun τ=> bf _ _ aa rfl rfl _ rfl ab (by (simp only [aZ,bm,bl,bw,bv];omega)) ag) ?_
 refine kd rfl ?_
 refine ap (_,[]) (fun τ=> cg _ aa rfl (by exact lP _ _ hi) rfl) ?_
 refine fW rfl ?_
 refine ap (_,[((5,0),_)]) (fun τ=> ay (5,0) aa rfl rfl) ?_
 refine gA rfl (bh ⟨rfl,?_⟩)
 refine bO rfl rfl rfl rfl rfl rfl (aj (aq (am (bF rfl rfl rfl (cI rfl rfl rfl (ai (bY _ _ rfl rfl rfl) (aj (aQ rfl (by rw [h1];rfl) ?_))))))))
 refine aq ?_
 refine aM (σ':=aB 44 [(0,_),(1,_),(5,_)] [((0,9),_),((5,0),_)] [(0,9)] [(0,9)]) kp ?_
 refine an (bF rfl rfl rfl (cI rfl rfl rfl (aR rfl (ai (dq _ _ rfl rfl rfl) (aj (aQ rfl (decide_eq_false ab) ?_))))))
 refine aI (aq (am (bj rfl (ai (aS _ rfl rfl) (bF rfl rfl rfl (cI rfl rfl rfl (ai (bY (r:=false) _ _ rfl rfl rfl) (aj (aQ rfl rfl (aI ?_))))))))))
 refine am (bj rfl (ai (aO (cm T i N hi hT)) ?_))
 exact aj (am (bF rfl rfl rfl (cI rfl rfl rfl (ba rfl (aj (aC (aY (.inr rfl) rfl (.tmp (rfl:_=AV.v _)) (Le.outI [] [] .v rfl rfl rfl trivial ob tr rfl))))))))
abbrev Al (T:List Tk) (i:Nat) (N:List Tx):List (aE×Cells):=[((0,9), .box 222 [.sl T.length (qf T), .v (.int .i64 (i:Int)), .v (.int .i64 0), .v (.int .i64 0), .ref (1,9) 0 N.length]),((1,9), .row 9 1 (dU N))]
theorem eu (T:List Tk) (i:Nat) (N:List Tx) (hi:i < T.length):
  Spec Tryz.prog 160 (be [.ptr (0,9) 0] (Al T i N)) (bg (.v (bt (cX T i).t)) (Al T i N) [(0,9),(1,9)] [(0,9),(1,9)]):=by
 refine Spec.ofNI Tryz.func160 rfl Tryz.ntmps160 rfl ?_
 refine am (jb rfl (aj (aq (bE 12 [3,4,5,6,7,8,9,10,11,12,13,2] [] ae ae rfl (aL rfl) (rfl:_=[_,_,_,_,_,_,_,_,_,_,_,_]) (rfl:_=[]) ?_))))
 refine ap (_,[]) (fun τ=> aD _ (rfl:_=AV.ptr _ _)) ?_
 refine eL rfl ?_
 refine ap (_,[]) (fun τ=> aS _ rfl rfl) ?_
 refine eK rfl ?_
 refine ap (_,[]) (fun τ=> aK _ aa rfl rfl rfl) ?_
 refine eM rfl ?_
 refine ap (_,[]) (fun τ=> aN _ aa rfl rfl (rfl:_=some (AV.sl _ _))) ?_
 refine eP rfl ?_
 refine ap (_,[]) (fun τ=> aD _ (rfl:_=AV.ptr _ _)) ?_
 refine fe rfl ?_
 refine ap (_,[]) (fun τ=> aS _ rfl rfl) ?_
 refine fB rfl ?_
 refine ap (_,[]) (fun τ=> aK _ aa rfl rfl rfl) ?_
 refine gy rfl ?_
 refine ap (_,[]) (fun τ=> aN _ aa rfl rfl (rfl:_=some (AV.v (.int _ _)))) ?_
 refine jS rfl ?_
 refine ap (_,[]) (fun τ=> bf _ _ aa rfl rfl _ rfl ab (by (simp only [aZ,bm,bl,bw,bv];omega)) ag) ?_
 refine kd rfl ?_
 refine ap (_,[]) (fun τ=> di _ aa rfl rfl) ?_
 refine fW rfl ?_
 refine ap (_,[]) (fun τ=> bB _ aa rfl (by exact me _ _ ab) rfl) ?_
 refine gA rfl ?_
 refine ap (_,[]) (fun τ=> bH _ (rfl:_=AV.v (.string _))) ?_
 refine kA rfl (bh ⟨rfl,?_⟩)
 exact aj (aC (aY (.inr rfl) rfl (.tmp (rfl:_=AV.v _)) (Le.outI [] [] .v rfl rfl rfl trivial ob tr rfl)))
theorem tM (T:List Tk) (i:Nat) (N:List Tx) (hi:i < T.length):
  Spec Tryz.prog 197 (be [.ptr (0,9) 0] (Al T i N)) (bg (.v (.bool (dZ T i))) (Al T i N) [(0,9),(1,9)] [(0,9),(1,9)]):=by
 refine Spec.ofNI Tryz.func197 rfl Tryz.ntmps197 rfl ?_
 refine am (cq rfl (aj (aq (bE 28 [3,4,5,6,7,8,9,10,11,12,13,14,15,16,17,18,19,20,21,22,23,24,25,26,27,28,29,2] [] ae ae rfl (aL rfl) (rfl:_=[_,_,_,_,_,_,_,_,_,_,_,_,_,_,_,_,_,_,_,_,_,_,_,_,_,_,_,_]) (rfl:_=[]) ?_))))
 refine ap (_,[]) (fun τ=> aD _ (rfl:_=AV.ptr _ _)) ?_
 refine eL rfl ?_
 refine ap (_,[]) (fun τ=> aS _ rfl rfl) ?_
 refine eK rfl ?_
 refine ap (_,[]) (fun τ=> aK _ aa rfl rfl rfl) ?_
 refine eM rfl ?_
 refine ap (_,[]) (fun τ=> aN _ aa rfl rfl (rfl:_=some (AV.sl _ _))) ?_
 refine eP rfl ?_
 refine ap (_,[]) (fun τ=> aD _ (rfl:_=AV.ptr _ _)) ?_
 refine fe rfl ?_
 refine ap (_,[]) (fun τ=> aS _ rfl rfl) ?_
 refine fB rfl ?_
 refine ap (_,[]) (fun τ=> aK _ aa rfl rfl rfl) ?_
 refine gy rfl ?_
 refine ap (_,[]) (fun τ=> aN _ aa rfl rfl (rfl:_=some (AV.v (.int _ _)))) ?_
 refine jS rfl ?_
 refine ap (_,[]) (fun τ=> bf _ _ aa rfl rfl _ rfl ab (by (simp only [aZ,bm,bl,bw,bv];omega)) ag) ?_
 refine kd rfl ?_
 refine ap (_,[]) (fun τ=> di _ aa rfl rfl) ?_
 refine fW rfl ?_
 refine ap (_,[]) (fun τ=> bB _ aa rfl (by exact oI _ _ ab) rfl) ?_
 refine gA rfl ?_
 refine ap (_,[]) (fun τ=> bR _ _ rfl rfl rfl) ?_
 refine kA rfl ?_
 refine ap (_,[]) (fun τ=> aD _ (rfl:_=AV.v (.bool _))) ?_
 refine mu (fun hg15=> ?_) (fun hg15=> ?_)
 ·skip
  have hr:dZ T i= !tD (cX T i).t:=by unfold dZ;rw [decide_eq_true ab];rfl
  refine kP rfl ?_
  refine bV (_,[]) rfl (fun τ=> rfl) (fun τ=> aD _ (rfl:_=AV.ptr _ _)) ?_
  refine nK rfl ?_
  refine bV (_,[]) rfl (fun τ=> rfl) (fun τ=> aS _ rfl rfl) ?_
  refine tv rfl ?_
  refine bV (_,[]) rfl (fun τ=> rfl) (fun τ=> aK _ aa rfl rfl rfl) ?_
  refine sG rfl ?_
  refine bV (_,[]) rfl (fun τ=> rfl) (fun τ=> aN _ aa rfl rfl (rfl:_=some (AV.sl _ _))) ?_
  refine wu rfl ?_
  refine bV (_,[]) rfl (fun τ=> rfl) (fun τ=> aD _ (rfl:_=AV.ptr _ _)) ?_
  refine vC rfl ?_
  refine bV (_,[]) rfl (fun τ=> rfl) (fun τ=> aS _ rfl rfl) ?_
  refine va rfl ?_
  refine bV (_,[]) rfl (fun τ=> rfl) (fun τ=> aK _ aa rfl rfl rfl) ?_
  refine zN rfl ?_
  refine bV (_,[]) rfl (fun τ=> rfl) (fun τ=> aN _ aa rfl rfl (rfl:_=some (AV.v (.int _ _)))) ?_
  refine zQ rfl ?_
  refine bV (_,[]) rfl (fun τ=> rfl) (fun τ=> bf _ _ aa rfl rfl _ rfl ab (by (simp only [aZ,bm,bl,bw,bv];omega)) ag) ?_
  refine zZ rfl ?_
  refine bV (_,[]) rfl (fun τ=> rfl) (fun τ=> di _ aa rfl rfl) ?_
  refine zH rfl ?_
  refine bV (_,[]) rfl (fun τ=> rfl) (fun τ=> bB _ aa rfl (by exact me _ _ ab) rfl) ?_
  refine zU rfl ?_
  refine bV (_,[]) rfl (fun τ=> rfl) (fun τ=> (aJ aa al (kH (cX T i).t) rfl rfl)) ?_
  refine Ag rfl ?_
  refine bV (_,[]) rfl (fun τ=> rfl) (fun τ=> cN _ rfl rfl) ?_
  refine zW rfl ?_
  refine ap (_,[]) (fun τ=> aF _ _ _ rfl (rfl:_=AV.v (.bool _))) ?_
  refine zE rfl ?_
  refine ap (_,[]) (fun τ=> bH _ (rfl:_=AV.v (.bool _))) ?_
  refine By rfl (bh ⟨rfl,?_⟩)
  exact aj (aC (aY (.inr rfl) rfl (.tmp (rfl:_=AV.v (.bool _))) (Le.outI [] [] (ie hr) rfl rfl rfl trivial ob tr rfl)))
 ·skip
  have hr:dZ T i=false:=by unfold dZ;rw [decide_eq_false ab];rfl
  refine kP rfl ?_
  refine cL rfl (fun τ=> rfl) ah ?_
  refine nK rfl ?_
  refine cL rfl (fun τ=> rfl) ah ?_
  refine tv rfl ?_
  refine cL rfl (fun τ=> rfl) ah ?_
  refine sG rfl ?_
  refine cL rfl (fun τ=> rfl) ah ?_
  refine wu rfl ?_
  refine cL rfl (fun τ=> rfl) ah ?_
  refine vC rfl ?_
  refine cL rfl (fun τ=> rfl) ah ?_
  refine va rfl ?_
  refine cL rfl (fun τ=> rfl) ah ?_
  refine zN rfl ?_
  refine cL rfl (fun τ=> rfl) ah ?_
  refine zQ rfl ?_
  refine cL rfl (fun τ=> rfl) ah ?_
  refine zZ rfl ?_
  refine cL rfl (fun τ=> rfl) ah ?_
  refine zH rfl ?_
  refine cL rfl (fun τ=> rfl) ah ?_
  refine zU rfl ?_
  refine cL rfl (fun τ=> rfl) ah ?_
  refine Ag rfl ?_
  refine cL rfl (fun τ=> rfl) ah ?_
  refine zW rfl ?_
  refine ap (_,[]) (fun τ=> aF _ _ _ rfl (rfl:_=AV.v (.bool _))) ?_
  refine zE rfl ?_
  refine ap (_,[]) (fun τ=> bH _ (rfl:_=AV.v (.bool _))) ?_
  refine By rfl (bh ⟨rfl,?_⟩)
  exact aj (aC (aY (.inr rfl) rfl (.tmp (rfl:_=AV.v (.bool _))) (Le.outI [] [] (ie hr) rfl rfl rfl trivial ob tr rfl)))
theorem jk (T:List Tk) (i:Nat) (N:List Tx) (hi:i < T.length) (hT:T.length≤100000):
  Spec Tryz.prog 196 (be [.ptr (0,9) 0] (Al T i N)) (bg (.tup []) (Al T (bQ T i) N) [(0,9),(1,9)] [(0,9),(1,9)]):=by
 refine Spec.ofNI Tryz.func196 rfl Tryz.ntmps196 rfl ?_
 refine aq (bE 11 [2,3,4,5,6,7,8,9,10,11,12] [] ae ae rfl (aL rfl) (rfl:_=[_,_,_,_,_,_,_,_,_,_,_]) (rfl:_=[]) ?_)
 refine ap (_,[]) (fun τ=> aD _ (rfl:_=AV.ptr _ _)) ?_
 refine eL rfl ?_
 refine ap (_,[]) (fun τ=> aS _ rfl rfl) ?_
 refine eK rfl ?_
 refine ap (_,[]) (fun τ=> aK _ aa rfl rfl rfl) ?_
 refine eM rfl ?_
 refine ap (_,[]) (fun τ=> aN _ aa rfl rfl (rfl:_=some (AV.v (.int _ _)))) ?_
 refine eP rfl ?_
 refine ap (_,[]) (fun τ=> bc _ _ rfl rfl (bq ab)) ?_
 refine fe rfl ?_
 refine ap (_,[]) (fun τ=> aD _ (rfl:_=AV.ptr _ _)) ?_
 refine fB rfl ?_
 refine ap (_,[]) (fun τ=> aS _ rfl rfl) ?_
 refine gy rfl ?_
 refine ap (_,[]) (fun τ=> aK _ aa rfl rfl rfl) ?_
 refine jS rfl ?_
 refine ap (_,[]) (fun τ=> aN _ aa rfl rfl (rfl:_=some (AV.sl _ _))) ?_
 refine kd rfl ?_
 refine ap (_,[]) (fun τ=> bG _ aa rfl) ?_
 refine fW rfl ?_
 refine ap (_,[]) (fun τ=> bp _ _ rfl rfl rfl) ?_
 refine gA rfl (bh ⟨rfl,?_⟩)
 refine aj (aV rfl (fun hc12=> ?_) (fun hc12=> ?_))
 ·skip
  have ht:bQ T i=i+1:=by unfold bQ;rw [if_pos ab]
  refine an (bj rfl (ai (aS _ rfl rfl) (bF rfl rfl rfl (cI rfl rfl rfl (ai (bc _ _ rfl rfl (bq ab)) ?_)))))
  exact ai (aS _ rfl rfl) (bF rfl rfl rfl (bO rfl rfl rfl rfl rfl rfl (az (eV (.inl rfl) rfl (Le.outI [] [] (.tup rfl br) rfl rfl rfl trivial ⟨⟨rfl,⟨_,rfl, .box rfl (aH .sl (aH (cj (by rw [ht] <;> omega)) lz))⟩,rfl⟩,⟨rfl,⟨_,rfl, .rowE rfl⟩,rfl⟩,trivial⟩ tr rfl)))))
 ·skip
  have ht:bQ T i=i:=by unfold bQ;rw [if_neg ab]
  exact bA (eV (.inl rfl) rfl (Le.outI [] [] (.tup rfl br) rfl rfl rfl trivial ⟨⟨rfl,⟨_,rfl, .box rfl (aH .sl (aH (cj (by rw [ht] <;> omega)) lz))⟩,rfl⟩,⟨rfl,⟨_,rfl, .rowE rfl⟩,rfl⟩,trivial⟩ tr rfl))
theorem qp (T:List Tk) (i j:Nat) (N:List Tx) (s:Tx) (hi:i < T.length) (hT:T.length≤100000) (h:fU T s i=some j):
  Spec Tryz.prog 162 (be [.ptr (0,9) 0, .v (bt s)] (Al T i N)) (bg (.tup []) (Al T j N) [(0,9),(1,9)] [(0,9),(1,9)]):=by
 have ⟨hs,hj⟩:(cX T i).t=s∧bQ T i=j:=by
  unfold fU at h
  split at h
  ·exact ⟨by assumption,Option.some.inj h⟩
  ·cases h
 subst hs
 subst hj
 refine Spec.ofNI Tryz.func162 rfl Tryz.ntmps162 rfl ?_
 refine aq (am (bj rfl (ai (aS _ rfl rfl) (bF rfl rfl rfl (cI rfl rfl rfl (jc rfl rfl rfl (cH rfl (ax rfl rfl (aD _ (rfl:_=AV.ptr _ _)) (ax rfl rfl (bs aa _ _ ar (eu T i N hi) tr rfl ae (by simp)) ?_)))))))))
 refine ax rfl rfl (aD _ (rfl:_=AV.v (.string _))) (ax rfl rfl (qB (r:=false) _ _ Tryz.underlying9 rfl rfl (by exact bne_self_eq_false _)) ?_)
 refine ai (aF _ _ _ rfl (rfl:_=AV.v (.bool _))) (aj (aQ rfl rfl (aI (am (bj rfl (ai (aS _ rfl rfl) (bF rfl rfl rfl (cI rfl rfl rfl (jc rfl rfl rfl (aj ?_))))))))))
 refine bD rfl rfl ?_
 refine aM (σ':=aB 28 [(0,_)] [((0,9),_),((1,9),_)] [(0,9),(1,9)] [(0,9),(1,9)]) kp ?_
 refine an (bj rfl (ai (db aa [] ar (jk T i N hi hT) ob tr ae) ?_))
 exact az (eV (.inl rfl) rfl (Le.outI [] [] (.tup rfl br) rfl rfl rfl trivial ob tr rfl))
end Go.Proofs.YtmjnackchaahbaaGreat
