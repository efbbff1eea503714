/- Part 9 of the texts that the walk leans on: the machine, the walks, the plain laws. -/
import Derived.Test.YtmjnackchaahbaaGreatVbZ8
set_option linter.unusedSimpArgs false
set_option linter.unusedVariables false
namespace Go.Proofs.YtmjnackchaahbaaGreat

instance SR:Bld Tryz.prog 24 GC (fun i=> some (i*1,1)):=Bld.array (bytes:=320) (.agg (GC).toArray) Tryz.underlying24 ae rfl (by simp [Value.oneCell']) ae
instance Tq:Bld Tryz.prog 25 Cs (fun i=> ([(0,1),(1,40),(41,1),(42,1)]:List (Nat×Nat))[i]?):=Bld.struct (bytes:=360) (.agg (Cs).toArray) [(0,1),(1,40),(41,1),(42,1)] Tryz.underlying25 ae rfl (by simp [Value.oneCell']) (fun w=> by kernel_rfl)
instance Th:Bld Tryz.prog 26 Cs (fun i=> ([(0,1),(1,40),(41,1),(42,1)]:List (Nat×Nat))[i]?):=Bld.struct (bytes:=360) (.agg (Cs).toArray) [(0,1),(1,40),(41,1),(42,1)] Tryz.underlying26 ae rfl (by simp [Value.oneCell']) (fun w=> by kernel_rfl)
instance Sx:Bld Tryz.prog 30 ur (fun i=> some (i*1,1)):=Bld.array (bytes:=72) (.agg (ur).toArray) Tryz.underlying30 ae rfl (by simp [Value.oneCell']) ae
instance SO:Bld Tryz.prog 33 Cm (fun i=> ([(0,1),(1,1),(2,1),(3,1),(4,1)]:List (Nat×Nat))[i]?):=Bld.struct (bytes:=88) (.agg (Cm).toArray) [(0,1),(1,1),(2,1),(3,1),(4,1)] Tryz.underlying33 ae rfl (by simp [Value.oneCell']) (fun w=> by kernel_rfl)
instance Ss:Bld Tryz.prog 34 Cm (fun i=> ([(0,1),(1,1),(2,1),(3,1),(4,1)]:List (Nat×Nat))[i]?):=Bld.struct (bytes:=88) (.agg (Cm).toArray) [(0,1),(1,1),(2,1),(3,1),(4,1)] Tryz.underlying34 ae rfl (by simp [Value.oneCell']) (fun w=> by kernel_rfl)
instance TP:Bld Tryz.prog 38 Cj (fun i=> ([(0,1),(1,1),(2,1),(3,1),(4,1),(5,1)]:List (Nat×Nat))[i]?):=Bld.struct (bytes:=112) (.agg (Cj).toArray) [(0,1),(1,1),(2,1),(3,1),(4,1),(5,1)] Tryz.underlying38 ae rfl (by simp [Value.oneCell']) (fun w=> by kernel_rfl)
instance Sv:Bld Tryz.prog 39 Cj (fun i=> ([(0,1),(1,1),(2,1),(3,1),(4,1),(5,1)]:List (Nat×Nat))[i]?):=Bld.struct (bytes:=112) (.agg (Cj).toArray) [(0,1),(1,1),(2,1),(3,1),(4,1),(5,1)] Tryz.underlying39 ae rfl (by simp [Value.oneCell']) (fun w=> by kernel_rfl)
instance RV:Bld Tryz.prog 44 [.int .i64 0, .int .i64 0] (fun i=> some (i*1,1)):=Bld.array (bytes:=16) (.agg #[.int .i64 0, .int .i64 0]) Tryz.underlying44 ae rfl (by simp [Value.oneCell']) ae
instance TE:Bld Tryz.prog 47 [.int .i64 0, .int .i64 0] (fun i=> ([(0,1),(1,1)]:List (Nat×Nat))[i]?):=Bld.struct (bytes:=16) (.agg #[.int .i64 0, .int .i64 0]) [(0,1),(1,1)] Tryz.underlying47 ae rfl (by simp [Value.oneCell']) (fun w=> by kernel_rfl)
instance RY:Bld Tryz.prog 48 [.int .i64 0, .int .i64 0] (fun i=> ([(0,1),(1,1)]:List (Nat×Nat))[i]?):=Bld.struct (bytes:=16) (.agg #[.int .i64 0, .int .i64 0]) [(0,1),(1,1)] Tryz.underlying48 ae rfl (by simp [Value.oneCell']) (fun w=> by kernel_rfl)
instance TB:Bld Tryz.prog 56 mJ (fun i=> ([(0,1),(1,1),(2,1),(3,1),(4,1)]:List (Nat×Nat))[i]?):=Bld.struct (bytes:=40) (.agg (mJ).toArray) [(0,1),(1,1),(2,1),(3,1),(4,1)] Tryz.underlying56 ae rfl (by simp [Value.oneCell']) (fun w=> by kernel_rfl)
instance Tw:Bld Tryz.prog 57 mJ (fun i=> ([(0,1),(1,1),(2,1),(3,1),(4,1)]:List (Nat×Nat))[i]?):=Bld.struct (bytes:=40) (.agg (mJ).toArray) [(0,1),(1,1),(2,1),(3,1),(4,1)] Tryz.underlying57 ae rfl (by simp [Value.oneCell']) (fun w=> by kernel_rfl)
instance Ue:Bld Tryz.prog 63 EC (fun i=> ([(0,1),(1,1),(2,1)]:List (Nat×Nat))[i]?):=Bld.struct (bytes:=72) (.agg (EC).toArray) [(0,1),(1,1),(2,1)] Tryz.underlying63 ae rfl (by simp [Value.oneCell']) (fun w=> by kernel_rfl)
instance RG:Bld Tryz.prog 64 EC (fun i=> ([(0,1),(1,1),(2,1)]:List (Nat×Nat))[i]?):=Bld.struct (bytes:=72) (.agg (EC).toArray) [(0,1),(1,1),(2,1)] Tryz.underlying64 ae rfl (by simp [Value.oneCell']) (fun w=> by kernel_rfl)
instance SQ:Bld Tryz.prog 70 Cv (fun i=> ([(0,1),(1,1),(2,1),(3,1)]:List (Nat×Nat))[i]?):=Bld.struct (bytes:=56) (.agg (Cv).toArray) [(0,1),(1,1),(2,1),(3,1)] Tryz.underlying70 ae rfl (by simp [Value.oneCell']) (fun w=> by kernel_rfl)
instance TI:Bld Tryz.prog 71 Cv (fun i=> ([(0,1),(1,1),(2,1),(3,1)]:List (Nat×Nat))[i]?):=Bld.struct (bytes:=56) (.agg (Cv).toArray) [(0,1),(1,1),(2,1),(3,1)] Tryz.underlying71 ae rfl (by simp [Value.oneCell']) (fun w=> by kernel_rfl)
instance Tv:Bld Tryz.prog 72 Cq (fun i=> ([(0,1),(1,4)]:List (Nat×Nat))[i]?):=Bld.struct (bytes:=64) (.agg (Cq).toArray) [(0,1),(1,4)] Tryz.underlying72 ae rfl (by simp [Value.oneCell']) (fun w=> by kernel_rfl)
instance Tl:Bld Tryz.prog 73 Cq (fun i=> ([(0,1),(1,4)]:List (Nat×Nat))[i]?):=Bld.struct (bytes:=64) (.agg (Cq).toArray) [(0,1),(1,4)] Tryz.underlying73 ae rfl (by simp [Value.oneCell']) (fun w=> by kernel_rfl)
instance Sf:Bld Tryz.prog 79 [.slice none 0 0, .slice none 0 0] (fun i=> ([(0,1),(1,1)]:List (Nat×Nat))[i]?):=Bld.struct (bytes:=48) (.agg #[.slice none 0 0, .slice none 0 0]) [(0,1),(1,1)] Tryz.underlying79 ae rfl (by simp [Value.oneCell']) (fun w=> by kernel_rfl)
instance SU:Bld Tryz.prog 80 [.slice none 0 0, .slice none 0 0] (fun i=> ([(0,1),(1,1)]:List (Nat×Nat))[i]?):=Bld.struct (bytes:=48) (.agg #[.slice none 0 0, .slice none 0 0]) [(0,1),(1,1)] Tryz.underlying80 ae rfl (by simp [Value.oneCell']) (fun w=> by kernel_rfl)
instance Sk:Bld Tryz.prog 81 GK (fun i=> some (i*1,1)):=Bld.array (bytes:=328) (.agg (GK).toArray) Tryz.underlying81 ae rfl (by simp [Value.oneCell']) ae
instance Rw:Bld Tryz.prog 82 uV (fun i=> ([(0,1),(1,1),(2,1),(3,1),(4,2),(6,1),(7,1),(8,41),(49,1),(50,1),(51,1)]:List (Nat×Nat))[i]?):=Bld.struct (bytes:=480) (.agg (uV).toArray) [(0,1),(1,1),(2,1),(3,1),(4,2),(6,1),(7,1),(8,41),(49,1),(50,1),(51,1)] Tryz.underlying82 ae rfl (by simp [Value.oneCell']) (fun w=> by kernel_rfl)
instance Tu:Bld Tryz.prog 83 uV (fun i=> ([(0,1),(1,1),(2,1),(3,1),(4,2),(6,1),(7,1),(8,41),(49,1),(50,1),(51,1)]:List (Nat×Nat))[i]?):=Bld.struct (bytes:=480) (.agg (uV).toArray) [(0,1),(1,1),(2,1),(3,1),(4,2),(6,1),(7,1),(8,41),(49,1),(50,1),(51,1)] Tryz.underlying83 ae rfl (by simp [Value.oneCell']) (fun w=> by kernel_rfl)
instance SZ:Bld Tryz.prog 86 vC (fun i=> ([(0,1),(1,1),(2,9),(11,1),(12,1),(13,1),(14,1)]:List (Nat×Nat))[i]?):=Bld.struct (bytes:=152) (.agg (vC).toArray) [(0,1),(1,1),(2,9),(11,1),(12,1),(13,1),(14,1)] Tryz.underlying86 ae rfl (by simp [Value.oneCell']) (fun w=> by kernel_rfl)
instance SY:Bld Tryz.prog 87 vC (fun i=> ([(0,1),(1,1),(2,9),(11,1),(12,1),(13,1),(14,1)]:List (Nat×Nat))[i]?):=Bld.struct (bytes:=152) (.agg (vC).toArray) [(0,1),(1,1),(2,9),(11,1),(12,1),(13,1),(14,1)] Tryz.underlying87 ae rfl (by simp [Value.oneCell']) (fun w=> by kernel_rfl)
instance Sc:Bld Tryz.prog 90 wu (fun i=> ([(0,1),(1,1),(2,1)]:List (Nat×Nat))[i]?):=Bld.struct (bytes:=24) (.agg (wu).toArray) [(0,1),(1,1),(2,1)] Tryz.underlying90 ae rfl (by simp [Value.oneCell']) (fun w=> by kernel_rfl)
instance Ta:Bld Tryz.prog 91 wu (fun i=> ([(0,1),(1,1),(2,1)]:List (Nat×Nat))[i]?):=Bld.struct (bytes:=24) (.agg (wu).toArray) [(0,1),(1,1),(2,1)] Tryz.underlying91 ae rfl (by simp [Value.oneCell']) (fun w=> by kernel_rfl)
instance Tr:Bld Tryz.prog 92 Ba (fun i=> ([(0,52),(52,1),(53,1),(54,1),(55,1),(56,1),(57,3),(60,6),(66,1)]:List (Nat×Nat))[i]?):=Bld.struct (bytes:=728) (.agg (Ba).toArray) [(0,52),(52,1),(53,1),(54,1),(55,1),(56,1),(57,3),(60,6),(66,1)] Tryz.underlying92 ae rfl (by simp [Value.oneCell']) (fun w=> by kernel_rfl)
instance RI:Bld Tryz.prog 93 Ba (fun i=> ([(0,52),(52,1),(53,1),(54,1),(55,1),(56,1),(57,3),(60,6),(66,1)]:List (Nat×Nat))[i]?):=Bld.struct (bytes:=728) (.agg (Ba).toArray) [(0,52),(52,1),(53,1),(54,1),(55,1),(56,1),(57,3),(60,6),(66,1)] Tryz.underlying93 ae rfl (by simp [Value.oneCell']) (fun w=> by kernel_rfl)
instance RN:Bld Tryz.prog 95 vS (fun i=> ([(0,3),(3,1),(4,1),(5,1),(6,1),(7,5)]:List (Nat×Nat))[i]?):=Bld.struct (bytes:=176) (.agg (vS).toArray) [(0,3),(3,1),(4,1),(5,1),(6,1),(7,5)] Tryz.underlying95 ae rfl (by simp [Value.oneCell']) (fun w=> by kernel_rfl)
instance Rx:Bld Tryz.prog 96 vS (fun i=> ([(0,3),(3,1),(4,1),(5,1),(6,1),(7,5)]:List (Nat×Nat))[i]?):=Bld.struct (bytes:=176) (.agg (vS).toArray) [(0,3),(3,1),(4,1),(5,1),(6,1),(7,5)] Tryz.underlying96 ae rfl (by simp [Value.oneCell']) (fun w=> by kernel_rfl)
instance Qv:Bld Tryz.prog 102 rT (fun i=> ([(0,3),(3,1),(4,1)]:List (Nat×Nat))[i]?):=Bld.struct (bytes:=72) (.agg (rT).toArray) [(0,3),(3,1),(4,1)] Tryz.underlying102 ae rfl (by simp [Value.oneCell']) (fun w=> by kernel_rfl)
instance PD:Bld Tryz.prog 103 rT (fun i=> ([(0,3),(3,1),(4,1)]:List (Nat×Nat))[i]?):=Bld.struct (bytes:=72) (.agg (rT).toArray) [(0,3),(3,1),(4,1)] Tryz.underlying103 ae rfl (by simp [Value.oneCell']) (fun w=> by kernel_rfl)
instance Rp:Bld Tryz.prog 108 mJ (fun i=> ([(0,3),(3,1),(4,1)]:List (Nat×Nat))[i]?):=Bld.struct (bytes:=40) (.agg (mJ).toArray) [(0,3),(3,1),(4,1)] Tryz.underlying108 ae rfl (by simp [Value.oneCell']) (fun w=> by kernel_rfl)
instance Rt:Bld Tryz.prog 109 mJ (fun i=> ([(0,3),(3,1),(4,1)]:List (Nat×Nat))[i]?):=Bld.struct (bytes:=40) (.agg (mJ).toArray) [(0,3),(3,1),(4,1)] Tryz.underlying109 ae rfl (by simp [Value.oneCell']) (fun w=> by kernel_rfl)
instance QC:Bld Tryz.prog 110 oY (fun i=> ([(0,5),(5,1),(6,1)]:List (Nat×Nat))[i]?):=Bld.struct (bytes:=56) (.agg (oY).toArray) [(0,5),(5,1),(6,1)] Tryz.underlying110 ae rfl (by simp [Value.oneCell']) (fun w=> by kernel_rfl)
instance QY:Bld Tryz.prog 111 oY (fun i=> ([(0,5),(5,1),(6,1)]:List (Nat×Nat))[i]?):=Bld.struct (bytes:=56) (.agg (oY).toArray) [(0,5),(5,1),(6,1)] Tryz.underlying111 ae rfl (by simp [Value.oneCell']) (fun w=> by kernel_rfl)
instance QR:Bld Tryz.prog 114 mJ (fun i=> ([(0,3),(3,1),(4,1)]:List (Nat×Nat))[i]?):=Bld.struct (bytes:=40) (.agg (mJ).toArray) [(0,3),(3,1),(4,1)] Tryz.underlying114 ae rfl (by simp [Value.oneCell']) (fun w=> by kernel_rfl)
instance QP:Bld Tryz.prog 115 mJ (fun i=> ([(0,3),(3,1),(4,1)]:List (Nat×Nat))[i]?):=Bld.struct (bytes:=40) (.agg (mJ).toArray) [(0,3),(3,1),(4,1)] Tryz.underlying115 ae rfl (by simp [Value.oneCell']) (fun w=> by kernel_rfl)
instance Pk:Bld Tryz.prog 116 ur (fun i=> ([(0,5),(5,1),(6,1),(7,1),(8,1)]:List (Nat×Nat))[i]?):=Bld.struct (bytes:=72) (.agg (ur).toArray) [(0,5),(5,1),(6,1),(7,1),(8,1)] Tryz.underlying116 ae rfl (by simp [Value.oneCell']) (fun w=> by kernel_rfl)
instance PX:Bld Tryz.prog 117 ur (fun i=> ([(0,5),(5,1),(6,1),(7,1),(8,1)]:List (Nat×Nat))[i]?):=Bld.struct (bytes:=72) (.agg (ur).toArray) [(0,5),(5,1),(6,1),(7,1),(8,1)] Tryz.underlying117 ae rfl (by simp [Value.oneCell']) (fun w=> by kernel_rfl)
instance NL:Bld Tryz.prog 125 [.int .i64 0, .int .i64 0] (fun i=> ([(0,1),(1,1)]:List (Nat×Nat))[i]?):=Bld.struct (bytes:=16) (.agg #[.int .i64 0, .int .i64 0]) [(0,1),(1,1)] Tryz.underlying125 ae rfl (by simp [Value.oneCell']) (fun w=> by kernel_rfl)
instance Qn:Bld Tryz.prog 126 [.int .i64 0, .int .i64 0] (fun i=> ([(0,1),(1,1)]:List (Nat×Nat))[i]?):=Bld.struct (bytes:=16) (.agg #[.int .i64 0, .int .i64 0]) [(0,1),(1,1)] Tryz.underlying126 ae rfl (by simp [Value.oneCell']) (fun w=> by kernel_rfl)
instance Ph:Bld Tryz.prog 128 vT (fun i=> ([(0,1),(1,1),(2,1)]:List (Nat×Nat))[i]?):=Bld.struct (bytes:=56) (.agg (vT).toArray) [(0,1),(1,1),(2,1)] Tryz.underlying128 ae rfl (by simp [Value.oneCell']) (fun w=> by kernel_rfl)
instance NP:Bld Tryz.prog 129 vT (fun i=> ([(0,1),(1,1),(2,1)]:List (Nat×Nat))[i]?):=Bld.struct (bytes:=56) (.agg (vT).toArray) [(0,1),(1,1),(2,1)] Tryz.underlying129 ae rfl (by simp [Value.oneCell']) (fun w=> by kernel_rfl)
instance Pq:Bld Tryz.prog 131 vb (fun i=> ([(0,1),(1,9)]:List (Nat×Nat))[i]?):=Bld.struct (bytes:=96) (.agg (vb).toArray) [(0,1),(1,9)] Tryz.underlying131 ae rfl (by simp [Value.oneCell']) (fun w=> by kernel_rfl)
instance PL:Bld Tryz.prog 132 vb (fun i=> ([(0,1),(1,9)]:List (Nat×Nat))[i]?):=Bld.struct (bytes:=96) (.agg (vb).toArray) [(0,1),(1,9)] Tryz.underlying132 ae rfl (by simp [Value.oneCell']) (fun w=> by kernel_rfl)
instance PP:Bld Tryz.prog 138 [.slice none 0 0, .int .i64 0] (fun i=> ([(0,1),(1,1)]:List (Nat×Nat))[i]?):=Bld.struct (bytes:=32) (.agg #[.slice none 0 0, .int .i64 0]) [(0,1),(1,1)] Tryz.underlying138 ae rfl (by simp [Value.oneCell']) (fun w=> by kernel_rfl)
instance QN:Bld Tryz.prog 139 [.slice none 0 0, .int .i64 0] (fun i=> ([(0,1),(1,1)]:List (Nat×Nat))[i]?):=Bld.struct (bytes:=32) (.agg #[.slice none 0 0, .int .i64 0]) [(0,1),(1,1)] Tryz.underlying139 ae rfl (by simp [Value.oneCell']) (fun w=> by kernel_rfl)
instance QG:Bld Tryz.prog 142 vY (fun i=> ([(0,3),(3,1)]:List (Nat×Nat))[i]?):=Bld.struct (bytes:=96) (.agg (vY).toArray) [(0,3),(3,1)] Tryz.underlying142 ae rfl (by simp [Value.oneCell']) (fun w=> by kernel_rfl)
instance Rk:Bld Tryz.prog 143 vY (fun i=> ([(0,3),(3,1)]:List (Nat×Nat))[i]?):=Bld.struct (bytes:=96) (.agg (vY).toArray) [(0,3),(3,1)] Tryz.underlying143 ae rfl (by simp [Value.oneCell']) (fun w=> by kernel_rfl)
instance OP:Bld Tryz.prog 170 vZ (fun i=> ([(0,43),(43,10),(53,1),(54,5),(59,1),(60,1),(61,1),(62,1),(63,1)]:List (Nat×Nat))[i]?):=Bld.struct (bytes:=608) (.agg (vZ).toArray) [(0,43),(43,10),(53,1),(54,5),(59,1),(60,1),(61,1),(62,1),(63,1)] Tryz.underlying170 ae rfl (by simp [Value.oneCell']) (fun w=> by kernel_rfl)
instance OK:Bld Tryz.prog 171 vZ (fun i=> ([(0,43),(43,10),(53,1),(54,5),(59,1),(60,1),(61,1),(62,1),(63,1)]:List (Nat×Nat))[i]?):=Bld.struct (bytes:=608) (.agg (vZ).toArray) [(0,43),(43,10),(53,1),(54,5),(59,1),(60,1),(61,1),(62,1),(63,1)] Tryz.underlying171 ae rfl (by simp [Value.oneCell']) (fun w=> by kernel_rfl)
instance NN:Bld Tryz.prog 173 BB (fun i=> some (i*1,1)):=Bld.array (bytes:=192) (.agg (BB).toArray) Tryz.underlying173 ae rfl (by simp [Value.oneCell']) ae
instance QK:Bld Tryz.prog 176 [] (fun i=> ([]:List (Nat×Nat))[i]?):=Bld.struct (bytes:=0) (.agg #[]) [] Tryz.underlying176 ae rfl (by simp [Value.oneCell']) (fun w=> by kernel_rfl)
instance NI:Bld Tryz.prog 191 vN (fun i=> ([(0,1),(1,1),(2,1),(3,1)]:List (Nat×Nat))[i]?):=Bld.struct (bytes:=32) (.agg (vN).toArray) [(0,1),(1,1),(2,1),(3,1)] Tryz.underlying191 ae rfl (by simp [Value.oneCell']) (fun w=> by kernel_rfl)
instance OD:Bld Tryz.prog 192 vN (fun i=> ([(0,1),(1,1),(2,1),(3,1)]:List (Nat×Nat))[i]?):=Bld.struct (bytes:=32) (.agg (vN).toArray) [(0,1),(1,1),(2,1),(3,1)] Tryz.underlying192 ae rfl (by simp [Value.oneCell']) (fun w=> by kernel_rfl)
instance Rc:Bld Tryz.prog 195 sc (fun i=> ([(0,5),(5,1)]:List (Nat×Nat))[i]?):=Bld.struct (bytes:=48) (.agg (sc).toArray) [(0,5),(5,1)] Tryz.underlying195 ae rfl (by simp [Value.oneCell']) (fun w=> by kernel_rfl)
instance Ot:Bld Tryz.prog 196 sc (fun i=> ([(0,5),(5,1)]:List (Nat×Nat))[i]?):=Bld.struct (bytes:=48) (.agg (sc).toArray) [(0,5),(5,1)] Tryz.underlying196 ae rfl (by simp [Value.oneCell']) (fun w=> by kernel_rfl)
instance Oc:Bld Tryz.prog 221 vy (fun i=> ([(0,1),(1,1),(2,1),(3,1),(4,1)]:List (Nat×Nat))[i]?):=Bld.struct (bytes:=72) (.agg (vy).toArray) [(0,1),(1,1),(2,1),(3,1),(4,1)] Tryz.underlying221 ae rfl (by simp [Value.oneCell']) (fun w=> by kernel_rfl)
instance ON:Bld Tryz.prog 222 vy (fun i=> ([(0,1),(1,1),(2,1),(3,1),(4,1)]:List (Nat×Nat))[i]?):=Bld.struct (bytes:=72) (.agg (vy).toArray) [(0,1),(1,1),(2,1),(3,1),(4,1)] Tryz.underlying222 ae rfl (by simp [Value.oneCell']) (fun w=> by kernel_rfl)
instance Qj:Bld Tryz.prog 224 rB (fun i=> ([(0,1),(1,1),(2,1),(3,1)]:List (Nat×Nat))[i]?):=Bld.struct (bytes:=40) (.agg (rB).toArray) [(0,1),(1,1),(2,1),(3,1)] Tryz.underlying224 ae rfl (by simp [Value.oneCell']) (fun w=> by kernel_rfl)
instance Qz:Bld Tryz.prog 225 rB (fun i=> ([(0,1),(1,1),(2,1),(3,1)]:List (Nat×Nat))[i]?):=Bld.struct (bytes:=40) (.agg (rB).toArray) [(0,1),(1,1),(2,1),(3,1)] Tryz.underlying225 ae rfl (by simp [Value.oneCell']) (fun w=> by kernel_rfl)
instance Pm:Bld Tryz.prog 287 Gd (fun i=> ([(0,1),(1,1),(2,1),(3,1),(4,1),(5,1),(6,1),(7,1),(8,1),(9,1),(10,1)]:List (Nat×Nat))[i]?):=Bld.struct (bytes:=48) (.agg (Gd).toArray) [(0,1),(1,1),(2,1),(3,1),(4,1),(5,1),(6,1),(7,1),(8,1),(9,1),(10,1)] Tryz.underlying287 ae rfl (by simp [Value.oneCell']) (fun w=> by kernel_rfl)
def gf (n m:Int):Int:=(if n < 0 then -(n+1) else n) % m
theorem km (n m:Int) (h:0 < m):0≤gf n m:=Int.emod_nonneg _ ab
theorem kr (n m:Int) (h:0 < m):gf n m < m:=Int.emod_lt_of_pos _ h
theorem gE (n m:Int) (hm:1≤m) (h1:m≤4611686018427387904) (h2: -9223372036854775808≤n) (h3:n≤9223372036854775807):
  Spec Tryz.prog 33 (bj [.v (.int .i64 n), .v (.int .i64 m)] []) (aX (.v (.int .i64 (gf n m))) []):=by
 refine Spec.ofN Tryz.func33 rfl Tryz.ntmps33 rfl ?_
 refine am (aZ rfl (aj (ap (am (aQ rfl (ai (bo _ _ rfl rfl rfl) (aj (aT rfl (fun hc6=> ?_) (fun hc6=> ?_)))))))))
 ·skip
  refine an (aQ rfl (ai (bc _ _ rfl rfl (bq ab)) ?_))
  refine ai (tu _ rfl (bq ab)) ?_
  refine aZ rfl (aj (am (aQ rfl (aQ rfl (ai (cY _ _ rfl rfl ab (Int.tmod_eq_emod_of_nonneg ab)) ?_)))))
  refine aZ rfl (aj (aC (aY (.inr rfl) rfl (.tmp (rfl:_=AV.v (.int _ _))) (Le.out [] [] (ck ?_) rfl rfl rfl trivial trivial))))
  unfold gf
  rw [if_pos hc6]
 ·skip
  refine aJ (am (aQ rfl (aQ rfl (ai (cY _ _ rfl rfl ab (Int.tmod_eq_emod_of_nonneg ab)) ?_))))
  refine aZ rfl (aj (aC (aY (.inr rfl) rfl (.tmp (rfl:_=AV.v (.int _ _))) (Le.out [] [] (ck ?_) rfl rfl rfl trivial trivial))))
  unfold gf
  rw [if_neg ab]

theorem vg (n m:Nat) (xs ys:List Int) (hn:xs.length=n) (hm:ys.length=m) (h1:n≤4611686018427387904) (h2:m≤4611686018427387904):
  Spec Tryz.prog 30 (bj [.sl n (du xs), .sl m (du ys)] []) (aX (.v (.bool (decide (xs=ys)))) []):=by
 subst hn;subst hm
 refine Spec.ofN Tryz.func30 rfl Tryz.ntmps30 rfl ?_
 refine am (ct rfl (aj (ap (am (eV rfl (ai (bE _ aa rfl) (eV rfl (ai (bE _ aa rfl) (ai (ca _ _ rfl rfl rfl) (aj ?_))))))))))
 refine aT rfl (fun hc10=> ?_) (fun hc10=> ?_)
 ·skip
  refine am (ct rfl (aj (aC (aY (.inr rfl) rfl (.tmp (rfl:_=AV.v (.bool _))) (Le.out [] [] (ic ?_) rfl rfl rfl trivial trivial)))))
  exact decide_eq_false fun h=> by subst h;omega
 ·skip
  refine aJ (aF fun K5 hK5=> ?_)
  refine am (aZ rfl (aj (au ?_)))
  refine bw (α:=Nat) (fun k=> k≤xs.length∧xs.length=ys.length∧xs.take k=ys.take k) 26 [(0,_),(1,_)] [] (fun k=> [(5, .v (.int .i64 (k:Int)))]) (fun k=> []) [] [] (fun k=> xs.length - k) 0 ?_ (by
   refine Le.mkJ [] [] rfl ?_ ?_ trivial trivial ?_
   ·exact ⟨(by exact iS rfl),(by exact iS rfl),(ck ag),trivial⟩
   ·exact trivial
   ·kernel_rfl) ?_
  ·exact ⟨by omega,by omega,rfl⟩
  intro k hk
  obtain ⟨hk,hl,ht⟩:=hk
  refine aF fun K7 hK7=> ?_
  refine am (aQ rfl (eV rfl (ai (bE _ aa rfl) (ai (bo _ _ rfl rfl rfl) (aj (aT rfl (fun hc14=> ?_) (fun hc14=> ?_)))))))
  ·skip
   have hkx:k < xs.length:=by omega
   have hky:k < ys.length:=by omega
   refine bv (hK7 _ ?_)
   clear hK7;try clear K7
   refine ap (au (ap ?_))
   refine aN (σ':=aB 26 [(0,_),(1,_),(5,_)] [] [] []) (by
    refine Le.mkJ [] [] rfl ?_ ?_ trivial trivial ?_
    ·exact ⟨(by exact iS rfl),(by exact iS rfl),(iV rfl),trivial⟩
    ·exact trivial
    ·kernel_rfl) ?_
   refine bF 9 [17,18,19,20,21,22,23,24,25] [] ae ae rfl (aM rfl) (rfl:_=[_,_,_,_,_,_,_,_,_]) (rfl:_=[]) ?_
   refine aq (_,[]) (fun τ=> aE _ (rfl:_=AV.sl _ _)) ?_
   refine eJ rfl ?_
   refine aq (_,[]) (fun τ=> aE _ (rfl:_=AV.v (.int _ _))) ?_
   refine eK rfl ?_
   refine aq (_,[]) (fun τ=> bf _ _ aa rfl rfl _ rfl ab (by (simp only [ba,bn,bl];omega)) (by exact Nat.mul_one _)) ?_
   refine eH rfl ?_
   refine aq (_,[]) (fun τ=> bH _ aa rfl (by exact dH _ _ ab) rfl) ?_
   refine eS rfl ?_
   refine aq (_,[]) (fun τ=> aE _ (rfl:_=AV.sl _ _)) ?_
   refine eZ rfl ?_
   refine aq (_,[]) (fun τ=> aE _ (rfl:_=AV.v (.int _ _))) ?_
   refine fH rfl ?_
   refine aq (_,[]) (fun τ=> bf _ _ aa rfl rfl _ rfl ab (by (simp only [ba,bn,bl];omega)) (by exact Nat.mul_one _)) ?_
   refine gF rfl ?_
   refine aq (_,[]) (fun τ=> bH _ aa rfl (by exact dH _ _ ab) rfl) ?_
   refine kv rfl ?_
   refine aq (_,[]) (fun τ=> ca _ _ rfl rfl rfl) ?_
   refine ko rfl (bh ⟨rfl,?_⟩)
   refine aj (aT rfl (fun hc25=> ?_) (fun hc25=> ?_))
   ·skip
    refine am (ct rfl (aj (aC (aY (.inr rfl) rfl (.tmp (rfl:_=AV.v (.bool _))) (Le.out [] [] (ic ?_) rfl rfl rfl trivial trivial)))))
    exact decide_eq_false fun h=> by subst h;exact hc25 rfl
   ·skip
    refine bZ (an (aQ rfl (ai (bc _ _ rfl rfl (bq ab)) ?_)))
    refine aZ rfl (az (⟨k+1,?_,?_,?_⟩))
    ·refine ⟨by omega,hl,?_⟩
     rw [qp _ _ _ hkx,qp _ _ _ hky] at hc25
     rw [List.take_succ_eq_append_getElem hkx,List.take_succ_eq_append_getElem hky,ht,hc25]
    ·skip
     refine Le.mkJ [] [] rfl ?_ ?_ trivial trivial ?_
     ·exact ⟨(by exact iS rfl),(by exact iS rfl),(ck ag),trivial⟩
     ·exact trivial
     ·kernel_rfl
    ·omega
  ·skip
   refine bK (id (hK5 _ ?_))
   clear hK5;try clear K5
   refine am (ct rfl (aj (aC (aY (.inr rfl) rfl (.tmp (rfl:_=AV.v (.bool _))) (Le.out [] [] (ic ?_) rfl rfl rfl trivial trivial)))))
   rw [List.take_of_length_le ab,List.take_of_length_le ab] at ht
   exact decide_eq_true ht

theorem mD (b:UInt8):Spec Tryz.prog 221 (bj [.v (.int .u8 (b.toNat:Int))] []) (aX (.v (.bool (lx b))) []):=by
 have h:=zw b
 refine Spec.ofN Tryz.func221 rfl Tryz.ntmps221 rfl ?_
 refine am (ct rfl (aj (am (aQ rfl (ai (eR _ _ rfl rfl rfl) (cJ rfl (dE (fun hg5=> ?_) (fun hg5=> ?_))))))))
 ·skip
  have h:lx b=decide ((b.toNat:Int)≤122):=by rw [Bool.eq_iff_iff,h];simp [hg5]
  refine ax rfl rfl (aE _ (rfl:_=AV.v (.int _ _))) (ax rfl rfl (bL _ _ rfl rfl rfl) (ai (aD _ _ _ rfl (rfl:_=AV.v (.bool _))) (ct rfl (aj (aC (aY (.inr rfl) rfl (.tmp (rfl:_=AV.v (.bool _))) (Le.out [] [] (ic ?_) rfl rfl rfl trivial trivial)))))))
  exact h
 ·skip
  have h:lx b=false:=Cn h (fun x=> by omega)
  refine aW rfl rfl ah ?_
  refine aW rfl rfl ah ?_
  refine ai (aD _ _ _ rfl (rfl:_=AV.v (.bool _))) (ct rfl (aj (aC (aY (.inr rfl) rfl (.tmp (rfl:_=AV.v (.bool _))) (Le.out [] [] (ic ?_) rfl rfl rfl trivial trivial)))))
  exact h
theorem kO (b:UInt8):Spec Tryz.prog 222 (bj [.v (.int .u8 (b.toNat:Int))] []) (aX (.v (.bool (fJ b))) []):=by
 have h:=rR b
 refine Spec.ofN Tryz.func222 rfl Tryz.ntmps222 rfl ?_
 refine am (ct rfl (aj (am (aQ rfl (ai (eR _ _ rfl rfl rfl) (cJ rfl (dE (fun hg5=> ?_) (fun hg5=> ?_))))))))
 ·skip
  have h:fJ b=decide ((b.toNat:Int)≤57):=by rw [Bool.eq_iff_iff,h];simp [hg5]
  refine ax rfl rfl (aE _ (rfl:_=AV.v (.int _ _))) (ax rfl rfl (bL _ _ rfl rfl rfl) (ai (aD _ _ _ rfl (rfl:_=AV.v (.bool _))) (ct rfl (aj (aC (aY (.inr rfl) rfl (.tmp (rfl:_=AV.v (.bool _))) (Le.out [] [] (ic ?_) rfl rfl rfl trivial trivial)))))))
  exact h
 ·skip
  have h:fJ b=false:=Cn h (fun x=> by omega)
  refine aW rfl rfl ah ?_
  refine aW rfl rfl ah ?_
  refine ai (aD _ _ _ rfl (rfl:_=AV.v (.bool _))) (ct rfl (aj (aC (aY (.inr rfl) rfl (.tmp (rfl:_=AV.v (.bool _))) (Le.out [] [] (ic ?_) rfl rfl rfl trivial trivial)))))
  exact h
theorem nu (l:List Tx) (n:Nat) (hn:l.length=n) (h1:n≤1000) (t:Tx):Spec Tryz.prog 224 (bj [.sl n (dT l), .v (bt t)] []) (aX (.v (.bool (decide (t∈l)))) []):=by
 refine Spec.ofN Tryz.func224 rfl Tryz.ntmps224 rfl ?_
 refine am (ct rfl (aj (aF fun K2 hK2=> ?_)))
 refine am (aZ rfl (aj (au ?_)))
 refine bw (α:=Nat) (fun k=> k≤n∧t∉l.take k) 18 [(0,_),(1,_)] [] (fun k=> [(5, .v (.int .i64 (k:Int)))]) (fun k=> []) [] [] (fun k=> n - k) 0 ?_ (by
  refine Le.mkJ [] [] rfl ?_ ?_ trivial trivial ?_
  ·exact ⟨(iS rfl),(iV rfl),(ck ag),trivial⟩
  ·exact trivial
  ·kernel_rfl) ?_
 ·exact ⟨Nat.zero_le _,by simp⟩
 intro k hk
 obtain ⟨hk,hnt⟩:=hk
 refine aF fun K4 hK4=> ?_
 refine am (aQ rfl (eV rfl (ai (bE _ aa rfl) (ai (bo _ _ rfl rfl rfl) (aj (aT rfl (fun hc9=> ?_) (fun hc9=> ?_)))))))
 ·skip
  refine bv (hK4 _ ?_)
  clear hK4;try clear K4
  refine ap (au (am (eV rfl (aQ rfl (ai (bf _ _ aa rfl rfl _ rfl ab (by (simp only [ba,bn,bl,bC];omega)) (by exact Nat.mul_one _)) ?_)))))
  refine ai (bH _ aa rfl (by exact fx _ _ ab) rfl) ?_
  refine dK rfl (ai (aU _ _ Tryz.underlying9 rfl rfl rfl) (aj (aT rfl (fun hc17=> ?_) (fun hc17=> ?_))))
  ·skip
   refine am (ct rfl (aj (aC (aY (.inr rfl) rfl (.tmp (rfl:_=AV.v (.bool _))) (Le.out [] [] (ic ?_) rfl rfl rfl trivial trivial)))))
   exact decide_eq_true (hc17 ▸ iO ab)
  ·skip
   refine bZ (an (aQ rfl (ai (bc _ _ rfl rfl (bq ab)) ?_)))
   refine aZ rfl (az (⟨k+1,?_,?_,?_⟩))
   ·exact ⟨by omega,jc hnt ab hc17⟩
   ·skip
    refine Le.mkJ [] [] rfl ?_ ?_ trivial trivial ?_
    ·exact ⟨(iS rfl),(iV rfl),(ck ag),trivial⟩
    ·exact trivial
    ·kernel_rfl
   ·omega
 ·skip
  have hall:t∉l:=by rwa [List.take_of_length_le ab] at hnt
  refine bK (id (hK2 _ ?_))
  clear hK2;try clear K2
  refine am (ct rfl (aj (aC (aY (.inr rfl) rfl (.tmp (rfl:_=AV.v (.bool _))) (Le.out [] [] (ic ?_) rfl rfl rfl trivial trivial)))))
  exact decide_eq_false hall
theorem pE (s:Tx) (at_:Nat) (h1:s.length≤100000) (ha:at_≤s.length):Spec Tryz.prog 194 (bj [.v (bt s), .v (.int .i64 (at_:Int))] []) (aX (.v (.int .i64 (jv s at_ false:Int))) []):=by
 refine Spec.ofN Tryz.func194 rfl Tryz.ntmps194 rfl ?_
 refine am (aZ rfl (aj (aF fun K2 hK2=> ?_)))
 refine au ?_
 refine bw (α:=Nat) (fun k=> k≤s.length∧jv s k false=jv s at_ false) 41 [(0,_)] [] (fun k=> [(1, .v (.int .i64 (k:Int)))]) (fun k=> []) [] [] (fun k=> s.length - k) at_ ?_ (by
  refine Le.mkJ [] [] rfl ?_ ?_ trivial trivial ?_
  ·exact ⟨(iV rfl),(ck ag),trivial⟩
  ·exact trivial
  ·kernel_rfl) ?_
 ·exact ⟨ha,rfl⟩
 intro k hk
 obtain ⟨hk,hs⟩:=hk
 refine aF fun K3 hK3=> ?_
 refine am (aQ rfl (dK rfl (ai (gq _ Tryz.underlying9 rfl) (ai (bo _ _ rfl rfl rfl) (aj (aT rfl (fun hc9=> ?_) (fun hc9=> ?_)))))))
 ·skip
  obtain ⟨b,hb⟩:=jb (s:=s) (a:=k) ab
  have hbi:=Md b
  refine bv (hK3 _ ?_)
  clear hK3;try clear K3
  refine au (am (dK rfl (aQ rfl (ai (jY _ _ Tryz.underlying9 rfl rfl (by assumption)) ?_))))
  refine aZ rfl (aj (am (aQ rfl (ai (bP _ _ rfl rfl rfl) (aj (aT rfl (fun hc14=> ?_) (fun hc14=> ?_)))))))
  ·skip
   have hs:=(wV hb ab).symm.trans hs
   refine au ?_
   refine bw (α:=Nat) (fun j=> k≤j∧j≤s.length∧jv s j true=jv s at_ false∧(j=k→j < s.length)) 41 [(0,_)] [] (fun j=> [(1, .v (.int .i64 (j:Int)))]) (fun j=> []) [] [] (fun j=> s.length - j) k ?_ (by
    refine Le.mkJ [] [] rfl ?_ ?_ trivial trivial ?_
    ·exact ⟨(iV rfl),(ck ag),trivial⟩
    ·exact trivial
    ·kernel_rfl) ?_
   ·exact ⟨Nat.le_refl _,by omega,hs,fun _=> by omega⟩
   intro j hj
   obtain ⟨hj1,hj2,hsj,hjk⟩:=hj
   refine aF fun K7 hK7=> ?_
   refine aF fun K8 hK8=> ?_
   refine an (aQ rfl (dK rfl (ai (gq _ Tryz.underlying9 rfl) (ai (bo _ _ rfl rfl rfl) (cJ rfl (dE (fun hg19=> ?_) (fun hg19=> ?_)))))))
   ·skip
    obtain ⟨u,hu⟩:=jb (s:=s) (a:=j) ab
    have hui:=Md u
    refine ax rfl rfl (aE _ (rfl:_=AV.v (.string _))) (ax rfl rfl (aE _ (rfl:_=AV.v (.int _ _))) (ax rfl rfl (jY _ _ Tryz.underlying9 rfl rfl (by assumption)) ?_))
    refine ax rfl rfl (ca _ _ rfl rfl rfl) (ai (aD _ _ _ rfl (rfl:_=AV.v (.bool _))) (az (hK8 _ ?_)))
    clear hK8;try clear K8
    refine aT rfl (fun hc24=> ?_) (fun hc24=> ?_)
    ·skip
     refine bv (hK7 _ ?_)
     clear hK7;try clear K7
     refine au (an (aQ rfl (ai (bc _ _ rfl rfl (bq ab)) ?_)))
     refine aZ rfl (az (⟨j+1,?_,?_,?_⟩))
     ·exact ⟨by omega,by omega,(DG hu ab).symm.trans hsj,fun _=> by omega⟩
     ·skip
      refine Le.mkJ [] [] rfl ?_ ?_ trivial trivial ?_
      ·exact ⟨(iV rfl),(ck ag),trivial⟩
      ·exact trivial
      ·kernel_rfl
     ·omega
    ·skip
     have hjs:jv s j false=jv s at_ false:=by rw [← hsj,Eb hu ab]
     have hjk':k < j:=Nat.lt_of_le_of_ne hj1 fun e=> by subst e;rw [hb] at hu;obtain rfl:=Option.some.inj hu;omega
     refine bK (id (⟨j,?_,?_,?_⟩))
     ·exact ⟨hj2,hjs⟩
     ·skip
      refine Le.mkJ [] [] rfl ?_ ?_ trivial trivial ?_
      ·exact ⟨(iV rfl),(ck ag),trivial⟩
      ·exact trivial
      ·kernel_rfl
     ·omega
   ·skip
    have hjs:jv s j false=jv s at_ false:=by rw [← hsj,qN ab,qN ab]
    have hjk':k < j:=Nat.lt_of_le_of_ne hj1 fun e=> by have:=hjk e.symm;omega
    refine aW rfl rfl ah ?_
    refine aW rfl rfl ah ?_
    refine aW rfl rfl ah ?_
    refine aW rfl rfl ah ?_
    refine ai (aD _ _ _ rfl (rfl:_=AV.v (.bool _))) (az (hK8 _ ?_))
    clear hK8;try clear K8
    refine aP rfl rfl (bK (id (⟨j,?_,?_,?_⟩)))
    ·exact ⟨hj2,hjs⟩
    ·skip
     refine Le.mkJ [] [] rfl ?_ ?_ trivial trivial ?_
     ·exact ⟨(iV rfl),(ck ag),trivial⟩
     ·exact trivial
     ·kernel_rfl
    ·omega
  ·skip
   refine am (aQ rfl (ai (bP _ _ rfl rfl rfl) (cJ rfl (dE (fun hg29=> ?_) (fun hg29=> ?_)))))
   ·skip
    have hs2:jv s (k+1) false=jv s at_ false:=(sP hb ab ab).symm.trans hs
    refine aW rfl rfl ah ?_
    refine aW rfl rfl ah ?_
    refine ai (aD _ _ _ rfl (rfl:_=AV.v (.bool _))) (cJ rfl (aW rfl rfl ah ?_))
    refine aW rfl rfl ah ?_
    refine ai (aD _ _ _ rfl (rfl:_=AV.v (.bool _))) (aj (bD rfl rfl ?_))
    refine aN (σ':=aB 41 [(0,_),(1,_)] [] [] []) kp ?_
    refine an (aQ rfl (ai (bc _ _ rfl rfl (bq ab)) ?_))
    refine aZ rfl (az (⟨k+1,?_,?_,?_⟩))
    ·exact ⟨by omega,hs2⟩
    ·skip
     refine Le.mkJ [] [] rfl ?_ ?_ trivial trivial ?_
     ·exact ⟨(iV rfl),(ck ag),trivial⟩
     ·exact trivial
     ·kernel_rfl
    ·omega
   ·skip
    refine ax rfl rfl (aE _ (rfl:_=AV.v (.int _ _))) (ax rfl rfl (bP _ _ rfl rfl rfl) (ai (aD _ _ _ rfl (rfl:_=AV.v (.bool _))) (cJ rfl (dE (fun hg33=> ?_) (fun hg33=> ?_)))))
    ·skip
     have hs2:jv s (k+1) false=jv s at_ false:=(sP hb ab ab).symm.trans hs
     refine aW rfl rfl ah ?_
     refine aW rfl rfl ah ?_
     refine ai (aD _ _ _ rfl (rfl:_=AV.v (.bool _))) (aj (bD rfl rfl ?_))
     refine aN (σ':=aB 41 [(0,_),(1,_)] [] [] []) kp ?_
     refine an (aQ rfl (ai (bc _ _ rfl rfl (bq ab)) ?_))
     refine aZ rfl (az (⟨k+1,?_,?_,?_⟩))
     ·exact ⟨by omega,hs2⟩
     ·skip
      refine Le.mkJ [] [] rfl ?_ ?_ trivial trivial ?_
      ·exact ⟨(iV rfl),(ck ag),trivial⟩
      ·exact trivial
      ·kernel_rfl
     ·omega
    ·skip
     refine ax rfl rfl (aE _ (rfl:_=AV.v (.int _ _))) (ax rfl rfl (bP _ _ rfl rfl rfl) (ai (aD _ _ _ rfl (rfl:_=AV.v (.bool _))) (aj (aT rfl (fun hc36=> ?_) (fun hc36=> ?_)))))
     ·skip
      have hs2:jv s (k+1) false=jv s at_ false:=(sP hb ab ab).symm.trans hs
      refine aN (σ':=aB 41 [(0,_),(1,_)] [] [] []) kp ?_
      refine an (aQ rfl (ai (bc _ _ rfl rfl (bq ab)) ?_))
      refine aZ rfl (az (⟨k+1,?_,?_,?_⟩))
      ·exact ⟨by omega,hs2⟩
      ·skip
       refine Le.mkJ [] [] rfl ?_ ?_ trivial trivial ?_
       ·exact ⟨(iV rfl),(ck ag),trivial⟩
       ·exact trivial
       ·kernel_rfl
      ·omega
     ·skip
      have hs3:=(Bl hb ab ab).symm.trans hs
      refine ap ?_
      refine aN (σ':=aB 41 [(1,_)] [] [] []) kp ?_
      refine an (aQ rfl (aZ rfl (aj (aC (aY (.inr rfl) rfl (.tmp (rfl:_=AV.v (.int _ _))) (Le.out [] [] (ck ?_) rfl rfl rfl trivial trivial))))))
      rw [hs3]
 ·skip
  refine bK (id (hK2 _ ?_))
  clear hK2;try clear K2
  refine am (aQ rfl (aZ rfl (aj (aC (aY (.inr rfl) rfl (.tmp (rfl:_=AV.v (.int _ _))) (Le.out [] [] (ck ?_) rfl rfl rfl trivial trivial))))))
  rw [← hs,qN ab]
theorem nw (s:Tx) (h1:s.length≤100000) (hd: ∀ b∈s,fJ b=true) (hv:jz s≤2147483647):Spec Tryz.prog 223 (bj [.v (bt s)] []) (aX (.v (.int .i64 (jz s:Int))) []):=by
 have hvt:=fun i=> vE s i
 refine Spec.ofN Tryz.func223 rfl Tryz.ntmps223 rfl ?_
 refine am (aZ rfl (aj (am (aZ rfl (aj (aF fun K3 hK3=> ?_))))))
 refine am (aZ rfl (aj (au ?_)))
 refine bw (α:=Nat) (fun k=> k≤s.length) 22 [(0,_)] [] (fun k=> [(3, .v (.int .i64 (jz (s.take k):Int))),(4, .v (.int .i64 (k:Int)))]) (fun k=> []) [] [] (fun k=> s.length - k) 0 ?_ (by
  refine Le.mkJ [] [] rfl ?_ ?_ trivial trivial ?_
  ·exact ⟨(iV rfl),(ck ag),(ck ag),trivial⟩
  ·exact trivial
  ·kernel_rfl) ?_
 ·omega
 intro k hk
 refine aF fun K5 hK5=> ?_
 refine am (aQ rfl (dK rfl (ai (gq _ Tryz.underlying9 rfl) (ai (bo _ _ rfl rfl rfl) (aj (aT rfl (fun hc8=> ?_) (fun hc8=> ?_)))))))
 ·skip
  obtain ⟨b,hb⟩:=jb (s:=s) (a:=k) ab
  have hbi:=Md b
  have hbd:=(rR b).1 (hd b (List.mem_of_getElem? hb))
  have hvs:=uN hb
  have hv0:=hvt k
  have hv1:=hvt (k+1)
  have hvi:(10:Int)*(jz (s.take k):Int)+(b.toNat:Int) - 48=(jz (s.take (k+1)):Int):=by omega
  refine bv (hK5 _ ?_)
  clear hK5;try clear K5
  refine ap (au (am (aQ rfl (ai (xe _ _ rfl rfl (bq ab)) ?_))))
  refine dK rfl (aQ rfl (ai (jY _ _ Tryz.underlying9 rfl rfl (by assumption)) ?_))
  refine ai (Ak _ Tryz.underlying5 Tryz.underlying3 rfl (bq ab)) ?_
  refine ai (bc _ _ rfl rfl (bq ab)) ?_
  refine ai (ce _ _ rfl rfl (bq ab)) ?_
  refine aZ rfl (aj (am (aQ rfl (ai (cP _ _ rfl rfl rfl) (aj (aP rfl (decide_eq_false ab) ?_))))))
  refine bZ ?_
  refine aN (σ':=aB 22 [(0,_),(3,_),(4,_)] [] [] []) kp ?_
  refine an (aQ rfl (ai (bc _ _ rfl rfl (bq ab)) ?_))
  refine aZ rfl (az (⟨k+1,?_,?_,?_⟩))
  ·omega
  ·skip
   refine Le.mkJ [] [] rfl ?_ ?_ trivial trivial ?_
   ·exact ⟨(iV rfl),(ck ab),(ck ag),trivial⟩
   ·exact trivial
   ·kernel_rfl
  ·omega
 ·skip
  have he:s.take k=s:=List.take_of_length_le ab
  refine bK (id (hK3 _ ?_))
  clear hK3;try clear K3
  refine am (aQ rfl (aZ rfl (aj (aC (aY (.inr rfl) rfl (.tmp (rfl:_=AV.v (.int _ _))) (Le.out [] [] (ck ?_) rfl rfl rfl trivial trivial))))))
  rw [he]

theorem xU {p:UInt8→Bool} {c:UInt8}: ∀ {l:List UInt8},c∈l.takeWhile p→p c=true
 | [],h=> by simp at h
 | x::l,h=> by
  rw [List.takeWhile_cons] at h
  split at h
  ·rename_i hx
   rcases List.mem_cons.1 h with rfl | h
   ·exact hx
   ·exact xU h
  ·simp at h
def sx (c:UInt8):Bool:=lx c || fJ c
theorem ph {s:Tx} {a:Nat} {b:UInt8} {t:Tk} (hb:s[a]? =some b) (h1:lx b=true) (h:oW (s.drop a) a=some t):jU sx s (a+1) - a≤10∧t=⟨1,a,(s.drop a).take (jU sx s (a+1) - a),0⟩:=by
 rw [qS hb]
 rw [fu hb,oW] at h
 simp only [h1,if_true] at h
 rw [show jU sx s (a+1) - a=(b::(s.drop (a+1)).takeWhile fun x=> lx x || fJ x).length by unfold jU sx;rw [List.length_cons];omega]
 split at h
 ·cases h
 ·rename_i hl;exact ⟨by omega,(Option.some.inj h).symm⟩
theorem rk {s:Tx} {a:Nat} {b:UInt8} {t:Tk} (hb:s[a]? =some b) (h1:lx b=false) (h2:fJ b=true) (h:oW (s.drop a) a=some t):
  (∀ c∈(s.drop a).take (jU fJ s (a+1) - a),fJ c=true)∧jz ((s.drop a).take (jU fJ s (a+1) - a))≤2147483647∧t=⟨2,a,(s.drop a).take (jU fJ s (a+1) - a),jz ((s.drop a).take (jU fJ s (a+1) - a))⟩:=by
 rw [qS hb]
 rw [fu hb,oW] at h
 simp only [h1,h2,if_true] at h
 simp only [Bool.false_eq_true,if_false] at h
 split at h
 ·cases h
 ·rename_i hl
  refine ⟨fun c hc=> ?_,by omega,(Option.some.inj h).symm⟩
  rcases List.mem_cons.1 hc with rfl | hc
  ·exact h2
  ·exact xU hc
theorem rp {s:Tx} {a:Nat} {b:UInt8} {t:Tk} (hb:s[a]? =some b) (h1:lx b=false) (h2:fJ b=false) (h:oW (s.drop a) a=some t):
  ((s.drop a).take 2∈BE∧t=⟨3,a,(s.drop a).take 2,0⟩)∨((s.drop a).take 2∉BE∧(s.drop a).take 1∈El∧t=⟨3,a,(s.drop a).take 1,0⟩):=by
 rw [fu hb,oW] at h
 simp only [h1,h2,Bool.false_eq_true,if_false] at h
 rw [fu hb]
 split at h
 ·rename_i hm;exact .inl ⟨hm,(Option.some.inj h).symm⟩
 ·rename_i hm
  split at h
  ·rename_i hs;exact .inr ⟨hm,hs,(Option.some.inj h).symm⟩
  ·cases h
theorem wc {s:Tx} {a:Nat} (h:a < s.length):(s.drop a).take (min (a+2) s.length - a)=(s.drop a).take 2:=by
 by_cases h2:a+2≤s.length
 ·congr 1;omega
 ·rw [List.take_of_length_le (by rw [List.length_drop];omega),List.take_of_length_le (by rw [List.length_drop];omega)]
theorem sJ (s:Tx) (a:Nat) (h1:s.length≤100000) (ha:a < s.length) (t:Tk) (ht:oW (s.drop a) a=some t):
  Spec Tryz.prog 195 (bj [.v (bt s), .v (.int .i64 (a:Int))] []) (aX (.tup [.agg [.v (.int .i64 (t.k:Int)), .v (.int .i64 (t.a:Int)), .v (bt t.t), .v (.int .i64 (t.n:Int))], .v (.int .i64 0)]) []):=by
 obtain ⟨b,hb⟩:=jb ha
 have hwl:=qe (p:=sx) (s:=s) (a:=a+1) ab
 have hdl:=qe (p:=fJ) (s:=s) (a:=a+1) ab
 refine Spec.ofN Tryz.func195 rfl Tryz.ntmps195 rfl ?_
 refine am (ai (ay (4,0) aa rfl rfl) (aZ rfl (aj (am (aQ rfl (ai (bc _ _ rfl rfl (bq ab)) ?_))))))
 refine aZ rfl (aj (ap (am (dK rfl (aQ rfl (ai (jY _ _ Tryz.underlying9 rfl rfl (by assumption)) ?_))))))
 refine ai (aL aa al (mD b) rfl rfl) ?_
 refine aj (aT rfl (fun hc15=> ?_) (fun hc15=> ?_))
 ·skip
  obtain ⟨htl,hte⟩:=ph hb hc15 ht
  refine aF fun K5 hK5=> ?_
  refine au ?_
  refine bw (α:=Nat) (fun e=> a+1≤e∧e≤s.length∧jU sx s e=jU sx s (a+1)) 101 [(0,_),(1,_),(4,_)] [((4,0),_)] (fun e=> [(6, .v (.int .i64 (e:Int)))]) (fun e=> []) [] [] (fun e=> s.length - e) (a+1) ?_ (by
   refine Le.mkJ [] [] rfl ?_ ?_ trivial trivial ?_
   ·exact ⟨(iV rfl),(iV rfl),(iP rfl),(ck ag),trivial⟩
   ·exact ⟨(cF rfl rfl rfl),trivial⟩
   ·kernel_rfl) ?_
  ·exact ⟨Nat.le_refl _,by omega,rfl⟩
  intro e he
  obtain ⟨he1,he2,het⟩:=he
  refine aF fun K6 hK6=> ?_
  refine aF fun K7 hK7=> ?_
  refine an (aQ rfl (dK rfl (ai (gq _ Tryz.underlying9 rfl) (ai (bo _ _ rfl rfl rfl) (cJ rfl (dE (fun hg20=> ?_) (fun hg20=> ?_)))))))
  ·skip
   obtain ⟨u,hu⟩:=jb (s:=s) (a:=e) ab
   refine ax rfl rfl (aE _ (rfl:_=AV.v (.string _))) (ax rfl rfl (aE _ (rfl:_=AV.v (.int _ _))) (ax rfl rfl (jY _ _ Tryz.underlying9 rfl rfl (by assumption)) ?_))
   refine ax rfl rfl (aL aa al (mD u) rfl rfl) ?_
   refine ax rfl rfl (aE _ (rfl:_=AV.v (.bool _))) (dE (fun hg25=> ?_) (fun hg25=> ?_))
   ·skip
    have hnx:jU sx s (e+1)=jU sx s (a+1):=(qa hu (by unfold sx;rw [hg25];rfl)).symm.trans het
    refine aW rfl rfl ah ?_
    refine aW rfl rfl ah ?_
    refine aW rfl rfl ah ?_
    refine aW rfl rfl ah ?_
    refine ax rfl rfl (aD _ _ _ rfl (rfl:_=AV.v (.bool _))) (ai (aD _ _ _ rfl (rfl:_=AV.v (.bool _))) (az (hK7 _ ?_)))
    clear hK7;try clear K7
    refine bD rfl rfl (bv (hK6 _ ?_))
    clear hK6;try clear K6
    refine au ?_
    refine aN (σ':=aB 101 [(0,_),(1,_),(4,_),(6,_)] [((4,0),_)] [] []) kp ?_
    refine an (aQ rfl (ai (bc _ _ rfl rfl (bq ab)) ?_))
    refine aZ rfl (az (⟨e+1,?_,?_,?_⟩))
    ·exact ⟨by omega,by omega,hnx⟩
    ·skip
     refine Le.mkJ [] [] rfl ?_ ?_ trivial trivial ?_
     ·exact ⟨(iV rfl),(iV rfl),(iP rfl),(ck ag),trivial⟩
     ·exact ⟨(cF rfl rfl rfl),trivial⟩
     ·kernel_rfl
    ·omega
   ·skip
    refine ax rfl rfl (aE _ (rfl:_=AV.v (.string _))) (ax rfl rfl (aE _ (rfl:_=AV.v (.int _ _))) (ax rfl rfl (jY _ _ Tryz.underlying9 rfl rfl (by assumption)) ?_))
    refine ax rfl rfl (aL aa al (kO u) rfl rfl) ?_
    refine ax rfl rfl (aD _ _ _ rfl (rfl:_=AV.v (.bool _))) (ai (aD _ _ _ rfl (rfl:_=AV.v (.bool _))) (az (hK7 _ ?_)))
    clear hK7;try clear K7
    refine aT rfl (fun hc31=> ?_) (fun hc31=> ?_)
    ·skip
     have hnx:jU sx s (e+1)=jU sx s (a+1):=(qa hu (by unfold sx;rw [hg25,hc31];rfl)).symm.trans het
     refine bv (hK6 _ ?_)
     clear hK6;try clear K6
     refine au ?_
     refine aN (σ':=aB 101 [(0,_),(1,_),(4,_),(6,_)] [((4,0),_)] [] []) kp ?_
     refine an (aQ rfl (ai (bc _ _ rfl rfl (bq ab)) ?_))
     refine aZ rfl (az (⟨e+1,?_,?_,?_⟩))
     ·exact ⟨by omega,by omega,hnx⟩
     ·skip
      refine Le.mkJ [] [] rfl ?_ ?_ trivial trivial ?_
      ·exact ⟨(iV rfl),(iV rfl),(iP rfl),(ck ag),trivial⟩
      ·exact ⟨(cF rfl rfl rfl),trivial⟩
      ·kernel_rfl
     ·omega
    ·skip
     have hfin:e=jU sx s (a+1):=(wP hu (by unfold sx;rw [hg25,hc31];rfl)).symm.trans het
     refine bK (id (hK5 _ ?_))
     clear hK5;try clear K5
     refine ap (ap ?_)
     refine aN (σ':=aB 101 [(0,_),(1,_),(4,_),(6,_)] [((4,0),_)] [] []) kp ?_
     refine an (aQ rfl (aQ rfl (ai (ce _ _ rfl rfl (bq ab)) ?_)))
     refine ai (cP _ _ rfl rfl rfl) (aj (aP rfl (decide_eq_false ab) ?_))
     refine aJ (am (aQ rfl (dK rfl (aQ rfl (aQ rfl (ai (jB _ _ _ Tryz.underlying9 rfl _ _ (.lit rfl rfl) (.lit rfl rfl) ab ab rfl) ?_))))))
     refine ai (aA _ aa rfl (by exact (rfl:_=some [_,_,_,_]))) ?_
     refine bO rfl rfl rfl rfl rfl rfl (aZ rfl (aj (aC ?_)))
     subst hte;subst hfin
     exact lw (.inr rfl) rfl (.cellA aa rfl rfl rfl) (.tmp (rfl:_=AV.v _)) (Le.out [] [] (.tup rfl lz) rfl rfl rfl trivial trivial)
  ·skip
   have hfin:e=jU sx s (a+1):=(tV ab).symm.trans het
   refine aW rfl rfl ah ?_
   refine aW rfl rfl ah ?_
   refine aW rfl rfl ah ?_
   refine aW rfl rfl ah ?_
   refine aW rfl rfl ah ?_
   refine mE rfl rfl (mE rfl rfl (mE rfl rfl (mE rfl rfl (aW rfl rfl ah ?_))))
   refine ai (aD _ _ _ rfl (rfl:_=AV.v (.bool _))) (az (hK7 _ ?_))
   clear hK7;try clear K7
   refine aP rfl rfl (bK (id (hK5 _ ?_)))
   clear hK5;try clear K5
   refine ap (ap ?_)
   refine aN (σ':=aB 101 [(0,_),(1,_),(4,_),(6,_)] [((4,0),_)] [] []) kp ?_
   refine an (aQ rfl (aQ rfl (ai (ce _ _ rfl rfl (bq ab)) ?_)))
   refine ai (cP _ _ rfl rfl rfl) (aj (aP rfl (decide_eq_false ab) ?_))
   refine aJ (am (aQ rfl (dK rfl (aQ rfl (aQ rfl (ai (jB _ _ _ Tryz.underlying9 rfl _ _ (.lit rfl rfl) (.lit rfl rfl) ab ab rfl) ?_))))))
   refine ai (aA _ aa rfl (by exact (rfl:_=some [_,_,_,_]))) ?_
   refine bO rfl rfl rfl rfl rfl rfl (aZ rfl (aj (aC ?_)))
   subst hte;subst hfin
   exact lw (.inr rfl) rfl (.cellA aa rfl rfl rfl) (.tmp (rfl:_=AV.v _)) (Le.out [] [] (.tup rfl lz) rfl rfl rfl trivial trivial)
 ·skip
  have hlb:=hc15
  refine aJ (ap (am (dK rfl (aQ rfl (ai (jY _ _ Tryz.underlying9 rfl rfl (by assumption)) ?_)))))
  refine ai (aL aa al (kO b) rfl rfl) ?_
  refine aj (aT rfl (fun hc48=> ?_) (fun hc48=> ?_))
  ·skip
   obtain ⟨htd,htv,hte⟩:=rk hb hlb hc48 ht
   refine aF fun K16 hK16=> ?_
   refine au ?_
   refine bw (α:=Nat) (fun e=> a+1≤e∧e≤s.length∧jU fJ s e=jU fJ s (a+1)) 101 [(0,_),(1,_),(4,_)] [((4,0),_)] (fun e=> [(6, .v (.int .i64 (e:Int)))]) (fun e=> []) [] [] (fun e=> s.length - e) (a+1) ?_ (by
    refine Le.mkJ [] [] rfl ?_ ?_ trivial trivial ?_
    ·exact ⟨(iV rfl),(iV rfl),(iP rfl),(ck ag),trivial⟩
    ·exact ⟨(cF rfl rfl rfl),trivial⟩
    ·kernel_rfl) ?_
   ·exact ⟨Nat.le_refl _,by omega,rfl⟩
   intro e he
   obtain ⟨he1,he2,het⟩:=he
   refine aF fun K17 hK17=> ?_
   refine aF fun K18 hK18=> ?_
   refine an (aQ rfl (dK rfl (ai (gq _ Tryz.underlying9 rfl) (ai (bo _ _ rfl rfl rfl) (cJ rfl (dE (fun hg53=> ?_) (fun hg53=> ?_)))))))
   ·skip
    obtain ⟨u,hu⟩:=jb (s:=s) (a:=e) ab
    refine ax rfl rfl (aE _ (rfl:_=AV.v (.string _))) (ax rfl rfl (aE _ (rfl:_=AV.v (.int _ _))) (ax rfl rfl (jY _ _ Tryz.underlying9 rfl rfl (by assumption)) ?_))
    refine ax rfl rfl (aL aa al (kO u) rfl rfl) ?_
    refine ai (aD _ _ _ rfl (rfl:_=AV.v (.bool _))) (az (hK18 _ ?_))
    clear hK18;try clear K18
    refine aT rfl (fun hc58=> ?_) (fun hc58=> ?_)
    ·skip
     have hnx:jU fJ s (e+1)=jU fJ s (a+1):=(qa hu hc58).symm.trans het
     refine bv (hK17 _ ?_)
     clear hK17;try clear K17
     refine au (an (aQ rfl (ai (bc _ _ rfl rfl (bq ab)) ?_)))
     refine aZ rfl (az (⟨e+1,?_,?_,?_⟩))
     ·exact ⟨by omega,by omega,hnx⟩
     ·skip
      refine Le.mkJ [] [] rfl ?_ ?_ trivial trivial ?_
      ·exact ⟨(iV rfl),(iV rfl),(iP rfl),(ck ag),trivial⟩
      ·exact ⟨(cF rfl rfl rfl),trivial⟩
      ·kernel_rfl
     ·omega
    ·skip
     have hfin:e=jU fJ s (a+1):=(wP hu hc58).symm.trans het
     refine bK (id (hK16 _ ?_))
     clear hK16;try clear K16
     refine am (dK rfl (aQ rfl (aQ rfl (ai (jB _ _ _ Tryz.underlying9 rfl _ _ (.lit rfl rfl) (.lit rfl rfl) ab ab rfl) ?_))))
     refine ai (aL aa al (nw ((s.drop a).take (e - a)) (by simp;omega) (by rw [hfin];exact htd) (by rw [hfin];exact htv)) rfl rfl) ?_
     refine aZ rfl (aj (ap (ap ?_)))
     refine aN (σ':=aB 101 [(0,_),(1,_),(4,_),(6,_),(7,_)] [((4,0),_)] [] []) kp ?_
     refine an (aQ rfl (ai (bo _ _ rfl rfl rfl) (aj (aP rfl (decide_eq_false ab) ?_))))
     refine aJ (am (aQ rfl (dK rfl (aQ rfl (aQ rfl (ai (jB _ _ _ Tryz.underlying9 rfl _ _ (.lit rfl rfl) (.lit rfl rfl) ab ab rfl) ?_))))))
     refine aQ rfl (ai (aA _ aa rfl (by exact (rfl:_=some [_,_,_,_]))) ?_)
     refine bO rfl rfl rfl rfl rfl rfl (aZ rfl (aj (aC ?_)))
     subst hte;subst hfin
     exact lw (.inr rfl) rfl (.cellA aa rfl rfl rfl) (.tmp (rfl:_=AV.v _)) (Le.out [] [] (.tup rfl lz) rfl rfl rfl trivial trivial)
   ·skip
    have hfin:e=jU fJ s (a+1):=(tV ab).symm.trans het
    refine aW rfl rfl ah ?_
    refine aW rfl rfl ah ?_
    refine aW rfl rfl ah ?_
    refine aW rfl rfl ah ?_
    refine ai (aD _ _ _ rfl (rfl:_=AV.v (.bool _))) (az (hK18 _ ?_))
    clear hK18;try clear K18
    refine aP rfl rfl (bK (id (hK16 _ ?_)))
    clear hK16;try clear K16
    refine am (dK rfl (aQ rfl (aQ rfl (ai (jB _ _ _ Tryz.underlying9 rfl _ _ (.lit rfl rfl) (.lit rfl rfl) ab ab rfl) ?_))))
    refine ai (aL aa al (nw ((s.drop a).take (e - a)) (by simp;omega) (by rw [hfin];exact htd) (by rw [hfin];exact htv)) rfl rfl) ?_
    refine aZ rfl (aj (ap (ap ?_)))
    refine aN (σ':=aB 101 [(0,_),(1,_),(4,_),(6,_),(7,_)] [((4,0),_)] [] []) kp ?_
    refine an (aQ rfl (ai (bo _ _ rfl rfl rfl) (aj (aP rfl (decide_eq_false ab) ?_))))
    refine aJ (am (aQ rfl (dK rfl (aQ rfl (aQ rfl (ai (jB _ _ _ Tryz.underlying9 rfl _ _ (.lit rfl rfl) (.lit rfl rfl) ab ab rfl) ?_))))))
    refine aQ rfl (ai (aA _ aa rfl (by exact (rfl:_=some [_,_,_,_]))) ?_)
    refine bO rfl rfl rfl rfl rfl rfl (aZ rfl (aj (aC ?_)))
    subst hte;subst hfin
    exact lw (.inr rfl) rfl (.cellA aa rfl rfl rfl) (.tmp (rfl:_=AV.v _)) (Le.out [] [] (.tup rfl lz) rfl rfl rfl trivial trivial)
  ·skip
   have hsy:=rp hb hlb hc48 ht
   refine aJ (am (dK rfl (aQ rfl (aQ rfl (ai (bc _ _ rfl rfl (bq ab)) ?_)))))
   refine dK rfl (ai (gq _ Tryz.underlying9 rfl) (ai (tk _ _ rfl rfl rfl) (ai (jB _ _ _ Tryz.underlying9 rfl a (min (a+2) s.length) (.lit rfl rfl) (.lit rfl ab) ab ab (wc ha)) ?_)))
   refine ja rfl (aj (ap (ap ?_)))
   refine aN (σ':=aB 101 [(0,_),(1,_),(4,_),(6,_),(8,_)] [((4,0),_)] [] []) kp ?_
   refine an (ai (aV _ _ aa rfl ag (by (simp <;> rfl)) ah rfl) ?_)
   refine dK rfl (ai (aL aa al (nu BE 6 rfl ab ((s.drop a).take 2)) rfl rfl) ?_)
   refine aj (aT rfl (fun hc86=> ?_) (fun hc86=> ?_))
   ·skip
    have hte:t=⟨3,a,(s.drop a).take 2,0⟩:=hsy.elim (·.2) fun h=> absurd hc86 h.1
    refine am (aQ rfl (dK rfl (ai (aA _ aa rfl (by exact (rfl:_=some [_,_,_,_]))) ?_)))
    refine bO rfl rfl rfl rfl rfl rfl (aZ rfl (aj (aC ?_)))
    subst hte
    exact lw (.inr rfl) rfl (.cellA aa rfl rfl rfl) (.tmp (rfl:_=AV.v _)) (Le.out [] [] (.tup rfl lz) rfl rfl rfl trivial trivial)
   ·skip
    obtain ⟨_,hs1,hte⟩:=hsy.resolve_left fun h=> hc86 h.1
    refine aJ (am (dK rfl (aQ rfl (aQ rfl (ai (jB _ _ _ Tryz.underlying9 rfl a (a+1) (.lit rfl rfl) (.lit rfl rfl) ab ab (by rw [Nat.add_sub_cancel_left])) ?_)))))
    refine ja rfl (aj (ap (am (ai (aV _ _ aa rfl ag (by (simp <;> rfl)) ah rfl) ?_))))
    refine dK rfl (ai (aL aa al (nu El 16 rfl ab ((s.drop a).take 1)) rfl rfl) ?_)
    refine aj (bD rfl (decide_eq_true hs1) ?_)
    refine am (aQ rfl (dK rfl (ai (aA _ aa rfl (by exact (rfl:_=some [_,_,_,_]))) ?_)))
    refine bO rfl rfl rfl rfl rfl rfl (aZ rfl (aj (aC ?_)))
    subst hte
    exact lw (.inr rfl) rfl (.cellA aa rfl rfl rfl) (.tmp (rfl:_=AV.v _)) (Le.out [] [] (.tup rfl lz) rfl rfl rfl trivial trivial)
theorem kS {f:Nat} {s:Tx} {a:Nat} {l:List Tk} (h:lN (f+1) s a=some l):(s.length≤a∧l=[⟨0,s.length,[],0⟩])∨(a < s.length∧ ∃ t m,oW (s.drop a) a=some t∧lN f s (jv s (a+t.t.length) false)=some m∧l=t::m):=by
 unfold lN at h
 split at h
 ·exact .inl ⟨by assumption,(Option.some.inj h).symm⟩
 ·split at h
  ·cases h
  ·split at h
   ·cases h
   ·rename_i t ht _ m hm
    exact .inr ⟨by omega,t,m,ht,hm,(Option.some.inj h).symm⟩
theorem ru {s:Tx} {a:Nat} {t:Tk} (ha:a < s.length) (h:oW (s.drop a) a=some t):0 < t.t.length∧a+t.t.length≤s.length:=by
 obtain ⟨b,hb⟩:=jb ha
 have key: ∀ k,0 < k→0 < ((s.drop a).take k).length∧a+((s.drop a).take k).length≤s.length:=fun k hk=> by rw [List.length_take,List.length_drop];omega
 cases h1:lx b with
 | true=> obtain ⟨_,rfl⟩:=ph hb h1 h;exact key _ (by have:=qe (p:=sx) (s:=s) (a:=a+1) ab;omega)
 | false=>
  cases h2:fJ b with
  | true=> obtain ⟨_,_,rfl⟩:=rk hb h1 h2 h;exact key _ (by have:=qe (p:=fJ) (s:=s) (a:=a+1) ab;omega)
  | false=>
   rcases rp hb h1 h2 h with ⟨_,rfl⟩ | ⟨_,_,rfl⟩
   ·exact key _ ab
   ·exact key _ ab
def Dq (s:Tx) (l:List Tk) (z:Nat×List Tk):Prop:=z.1≤s.length∧z.2.length≤z.1∧ ∃ f m,lN f s z.1=some m∧l=z.2++m
theorem rS (s:Tx) (h1:s.length≤100000) (l:List Tk) (hl:zK s=some l):
  Spec Tryz.prog 159 (bj [.v (bt s)] []) (aX (.tup [.sl l.length (pY l), .v (.int .i64 0), .v (.int .i64 0)]) []):=by
 have hs0:=tv (s:=s) (a:=0) (Nat.zero_le _) false
 refine Spec.ofN Tryz.func159 rfl Tryz.ntmps159 rfl ?_
 refine am (ai (bG _ (rfl:_=AV.v (.slice _ _ _))) (aZ rfl (aZ rfl (aj (am (ai (oJ (5,0) _ 225 4 rfl rfl) ?_))))))
 refine aj (am (dK rfl (ai (aL aa al (pE s 0 h1 (Nat.zero_le _)) rfl rfl) ?_)))
 refine aZ rfl (aj (aF fun K4 hK4=> ?_))
 refine au ?_
 refine bw (α:=Nat×List Tk) (fun z=> Dq s l z) 42 [(0,_)] [] (fun z=> [(6, .v (.int .i64 (z.1:Int))),(5, .ref (5,0) 0 z.2.length)]) (fun z=> [((5,0), .row 225 4 (pY z.2))]) [] [] (fun z=> s.length - z.1) (jv s 0 false,[]) ?_ (by
  refine Le.mkJ [] [] rfl ?_ ?_ trivial trivial ?_
  ·exact ⟨(iV rfl),(ck ag),(dh rfl ag),trivial⟩
  ·exact ⟨(gM rfl rfl rfl ag),trivial⟩
  ·kernel_rfl) ?_
 ·exact ⟨hs0.2,Nat.zero_le _,s.length+1,l,by rw [← hl];unfold zK jv;rw [List.drop_zero,Nat.zero_add],rfl⟩
 intro z hz
 obtain ⟨hz1,hz2,f,m,hf,hlm⟩:=hz
 obtain ⟨f,rfl⟩: ∃ g,f=g+1:=by cases f with | zero=> (simp [lN] at hf) | succ g=> exact ⟨g,rfl⟩
 refine aF fun K5 hK5=> ?_
 refine am (aQ rfl (dK rfl (ai (gq _ Tryz.underlying9 rfl) (ai (bo _ _ rfl rfl rfl) (aj (aT rfl (fun hc14=> ?_) (fun hc14=> ?_)))))))
 ·skip
  obtain ⟨_,t,m',ht,hm',hm⟩:=(kS hf).resolve_left fun h=> by omega
  obtain ⟨htl,hta⟩:=ru ab ht
  have hsk:=tv (s:=s) (a:=z.1+t.t.length) hta false
  have hlen:(z.2++[t]).length=z.2.length+1:=by simp
  refine bv (hK5 _ ?_)
  clear hK5;try clear K5
  refine au (am (dK rfl (aQ rfl (ai (aL aa al (sJ s z.1 h1 ab t ht) rfl rfl) ?_))))
  refine ai (aE _ (rfl:_=AV.tup _)) (ai (db _ rfl (rfl:_=some (AV.agg _))) (ai (db _ rfl (rfl:_=some (AV.v (.int _ _)))) (ai (ay (7,0) aa rfl rfl) (bO rfl rfl rfl rfl rfl rfl (aZ rfl (aj (ap (am (aQ rfl (ai (ca (r:=false) _ _ rfl rfl rfl) ?_))))))))))
  refine aj (aP rfl rfl (aJ (ap ?_)))
  refine aN (σ':=aB 42 [(0,_),(5,_),(6,_),(7,_)] [((5,0),_),((7,0),_)] [] []) kp ?_
  refine an (gG rfl (ai (aR _ aa rfl rfl rfl rfl) (ai (aV _ _ aa rfl ag (by (simp <;> rfl)) ah rfl) ?_)))
  refine ai (dl (28,0) _ _ aa rfl rfl (bz _).symm (.sl rfl) ab rfl (qX _ _) hlen.symm) ?_
  refine fa rfl (aj (an (dK rfl (aQ rfl (bA rfl rfl rfl (ai (aK _ aa rfl rfl (rfl:_=some (AV.v (.string _)))) (ai (gq _ Tryz.underlying9 rfl) (ai (bc _ _ rfl rfl (bq ab)) ?_))))))))
  refine ai (aL aa al (pE s (z.1+t.t.length) h1 hta) rfl rfl) ?_
  refine aZ rfl (az (⟨(jv s (z.1+t.t.length) false,z.2++[t]),?_,?_,?_⟩))
  ·exact ⟨hsk.2,by simp only;omega,f,m',hm',by rw [hlm,hm];simp⟩
  ·skip
   refine Le.mkJ [((5,0),(28,0))] [] rfl ?_ ?_ trivial trivial ?_
   ·exact ⟨(by repeat' (exact Lv.v)),(ck ag),(dh rfl ag),trivial⟩
   ·exact ⟨(gM rfl rfl rfl ag),trivial⟩
   ·kernel_rfl
  ·simp only;omega
 ·skip
  obtain ⟨_,hm⟩:=(kS hf).resolve_right fun h=> by omega
  have hlen:(z.2++[(⟨0,s.length,[],0⟩:Tk)]).length=z.2.length+1:=by simp
  rw [hm] at hlm;subst hlm
  refine bK (id (hK4 _ ?_))
  clear hK4;try clear K4
  refine am (gG rfl (dK rfl (ai (gq _ Tryz.underlying9 rfl) (ai (aA _ aa rfl (by exact (rfl:_=some [_,_,_,_]))) ?_))))
  refine ai (aV _ _ aa rfl ag (by (simp <;> rfl)) ah rfl) ?_
  refine ai (dl (41,0) _ _ aa rfl rfl (bz _).symm (.sl rfl) ab rfl (qX _ ⟨0,s.length,[],0⟩) hlen.symm) ?_
  exact fa rfl (aZ rfl (aZ rfl (aj (aC (By (.inr rfl) rfl (.tmp (rfl:_=AV.ref _ _ _)) (.tmp (rfl:_=AV.v _)) (.tmp (rfl:_=AV.v _)) (Le.out [] [(41,0)] (.tup rfl (aI (iu rfl rfl (bz _).symm rfl) lz)) rfl rfl rfl tr trivial))))))

theorem cw (l:List Tx) (n:Nat) (hn:l.length=n) (h1:n≤1000) (t:Tx):Spec Tryz.prog 199 (bj [.sl n (dT l), .v (bt t)] []) (aX (.v (.bool (decide (t∈l)))) []):=by
 refine Spec.ofN Tryz.func199 rfl Tryz.ntmps199 rfl ?_
 refine am (ct rfl (aj (aF fun K2 hK2=> ?_)))
 refine am (aZ rfl (aj (au ?_)))
 refine bw (α:=Nat) (fun k=> k≤n∧t∉l.take k) 18 [(0,_),(1,_)] [] (fun k=> [(5, .v (.int .i64 (k:Int)))]) (fun k=> []) [] [] (fun k=> n - k) 0 ?_ (by
  refine Le.mkJ [] [] rfl ?_ ?_ trivial trivial ?_
  ·exact ⟨(iS rfl),(iV rfl),(ck ag),trivial⟩
  ·exact trivial
  ·kernel_rfl) ?_
 ·exact ⟨Nat.zero_le _,by simp⟩
 intro k hk
 obtain ⟨hk,hnt⟩:=hk
 refine aF fun K4 hK4=> ?_
 refine am (aQ rfl (eV rfl (ai (bE _ aa rfl) (ai (bo _ _ rfl rfl rfl) (aj (aT rfl (fun hc9=> ?_) (fun hc9=> ?_)))))))
 ·skip
  refine bv (hK4 _ ?_)
  clear hK4;try clear K4
  refine ap (au (am (eV rfl (aQ rfl (ai (bf _ _ aa rfl rfl _ rfl ab (by (simp only [ba,bn,bl,bC,bz];omega)) (by exact Nat.mul_one _)) ?_)))))
  refine ai (bH _ aa rfl (by exact fx _ _ ab) rfl) ?_
  refine dK rfl (ai (aU _ _ Tryz.underlying9 rfl rfl rfl) (aj (aT rfl (fun hc17=> ?_) (fun hc17=> ?_))))
  ·skip
   refine am (ct rfl (aj (aC (aY (.inr rfl) rfl (.tmp (rfl:_=AV.v (.bool _))) (Le.out [] [] (ic ?_) rfl rfl rfl trivial trivial)))))
   exact decide_eq_true (hc17 ▸ iO ab)
  ·skip
   refine bZ (an (aQ rfl (ai (bc _ _ rfl rfl (bq ab)) ?_)))
   refine aZ rfl (az (⟨k+1,?_,?_,?_⟩))
   ·exact ⟨by omega,jc hnt ab hc17⟩
   ·skip
    refine Le.mkJ [] [] rfl ?_ ?_ trivial trivial ?_
    ·exact ⟨(iS rfl),(iV rfl),(ck ag),trivial⟩
    ·exact trivial
    ·kernel_rfl
   ·omega
 ·skip
  have hall:t∉l:=by rwa [List.take_of_length_le ab] at hnt
  refine bK (id (hK2 _ ?_))
  clear hK2;try clear K2
  refine am (ct rfl (aj (aC (aY (.inr rfl) rfl (.tmp (rfl:_=AV.v (.bool _))) (Le.out [] [] (ic ?_) rfl rfl rfl trivial trivial)))))
  exact decide_eq_false hall
theorem ez:Spec Tryz.prog 205 (bj [] []) (aX (.sl 9 (dT bltT)) []):=by
 refine Spec.ofN Tryz.func205 rfl Tryz.ntmps205 rfl ?_
 refine am (ai (bG _ (rfl:_=AV.v (.slice _ _ _))) (aj (am (ai (aV _ _ aa rfl ag (by (simp <;> rfl)) ah rfl) ?_))))
 exact kJ rfl (aj (aC (aY (.inr rfl) rfl (.tmp (rfl:_=AV.sl _ _)) (Le.out [] [] .sl rfl rfl rfl trivial trivial))))
theorem kG (t:Tx):Spec Tryz.prog 225 (bj [.v (bt t)] []) (aX (.v (.bool (ti t))) []):=by
 refine Spec.ofN Tryz.func225 rfl Tryz.ntmps225 rfl ?_
 refine am (ct rfl (aj (am (ai (aL aa (by repeat' (exact dN)) (ez) rfl rfl) ?_))))
 refine dK rfl (ai (aL aa al (cw bltT 9 rfl ab t) rfl rfl) ?_)
 refine cJ rfl (dE (fun hg6=> ?_) (fun hg6=> ?_))
 ·skip
  refine aW rfl rfl ah ?_
  refine aW rfl rfl ah ?_
  refine aW rfl rfl ah ?_
  refine ai (aD _ _ _ rfl (rfl:_=AV.v (.bool _))) (ct rfl (aj (aC (aY (.inr rfl) rfl (.tmp (rfl:_=AV.v (.bool _))) (Le.out [] [] (ic ?_) rfl rfl rfl trivial trivial)))))
  unfold ti
  (rw [decide_eq_true hg6];rfl)
 ·skip
  refine ax rfl rfl (aV _ _ aa rfl ag (by (simp <;> rfl)) ah rfl) ?_
  refine ax rfl rfl (aE _ (rfl:_=AV.v (.string _))) (ax rfl rfl (aL aa al (cw Pd 19 rfl ab t) rfl rfl) ?_)
  refine ai (aD _ _ _ rfl (rfl:_=AV.v (.bool _))) (ct rfl (aj (aC (aY (.inr rfl) rfl (.tmp (rfl:_=AV.v (.bool _))) (Le.out [] [] (ic ?_) rfl rfl rfl trivial trivial)))))
  unfold ti
  (rw [decide_eq_false hg6];rfl)
theorem dM {T:List Tk} {i:Nat} (h:i < T.length):bR T i < T.length:=by unfold bR;split <;> omega
abbrev dF (T:List Tk) (i:Nat) (N:List Tx):List (aG×Cells):=[((0,9), .box 222 [.sl T.length (pY T), .v (.int .i64 (i:Int)), .v (.int .i64 0), .v (.int .i64 0), .sl N.length (dT N)])]
theorem bT (T:List Tk) (i:Nat) (N:List Tx) (hi:i < T.length):
  Spec Tryz.prog 160 (be [.ptr (0,9) 0] (dF T i N)) (bg (.v (bt (cX T i).t)) (dF T i N) [(0,9)] [(0,9)]):=by
 refine Spec.ofNI Tryz.func160 rfl Tryz.ntmps160 rfl ?_
 refine am (ja rfl (aj (ap (bF 12 [3,4,5,6,7,8,9,10,11,12,13,2] [] ae ae rfl (aM rfl) (rfl:_=[_,_,_,_,_,_,_,_,_,_,_,_]) (rfl:_=[]) ?_))))
 refine aq (_,[]) (fun τ=> aE _ (rfl:_=AV.ptr _ _)) ?_
 refine eJ rfl ?_
 refine aq (_,[]) (fun τ=> aS _ rfl rfl) ?_
 refine eK rfl ?_
 refine aq (_,[]) (fun τ=> aH _ aa rfl rfl rfl) ?_
 refine eH rfl ?_
 refine aq (_,[]) (fun τ=> aK _ aa rfl rfl (rfl:_=some (AV.sl _ _))) ?_
 refine eS rfl ?_
 refine aq (_,[]) (fun τ=> aE _ (rfl:_=AV.ptr _ _)) ?_
 refine eZ rfl ?_
 refine aq (_,[]) (fun τ=> aS _ rfl rfl) ?_
 refine fH rfl ?_
 refine aq (_,[]) (fun τ=> aH _ aa rfl rfl rfl) ?_
 refine gF rfl ?_
 refine aq (_,[]) (fun τ=> aK _ aa rfl rfl (rfl:_=some (AV.v (.int _ _)))) ?_
 refine kv rfl ?_
 refine aq (_,[]) (fun τ=> bf _ _ aa rfl rfl _ rfl ab (by (simp only [ba,bn,bl,bC,bz];omega)) ag) ?_
 refine ko rfl ?_
 refine aq (_,[]) (fun τ=> di _ aa rfl rfl) ?_
 refine gj rfl ?_
 refine aq (_,[]) (fun τ=> bH _ aa rfl (by exact lV _ _ ab) rfl) ?_
 refine gH rfl ?_
 refine aq (_,[]) (fun τ=> bG _ (rfl:_=AV.v (.string _))) ?_
 refine lf rfl (bh ⟨rfl,?_⟩)
 exact aj (aC (aY (.inr rfl) rfl (.tmp (rfl:_=AV.v _)) (Le.outI [] [] .v rfl rfl rfl trivial ob tr rfl)))
theorem dD (T:List Tk) (i:Nat) (N:List Tx) (hi:i < T.length):
  Spec Tryz.prog 197 (be [.ptr (0,9) 0] (dF T i N)) (bg (.v (.bool (dX T i))) (dF T i N) [(0,9)] [(0,9)]):=by
 refine Spec.ofNI Tryz.func197 rfl Tryz.ntmps197 rfl ?_
 refine am (ct rfl (aj (ap (bF 28 [3,4,5,6,7,8,9,10,11,12,13,14,15,16,17,18,19,20,21,22,23,24,25,26,27,28,29,2] [] ae ae rfl (aM rfl) (rfl:_=[_,_,_,_,_,_,_,_,_,_,_,_,_,_,_,_,_,_,_,_,_,_,_,_,_,_,_,_]) (rfl:_=[]) ?_))))
 refine aq (_,[]) (fun τ=> aE _ (rfl:_=AV.ptr _ _)) ?_
 refine eJ rfl ?_
 refine aq (_,[]) (fun τ=> aS _ rfl rfl) ?_
 refine eK rfl ?_
 refine aq (_,[]) (fun τ=> aH _ aa rfl rfl rfl) ?_
 refine eH rfl ?_
 refine aq (_,[]) (fun τ=> aK _ aa rfl rfl (rfl:_=some (AV.sl _ _))) ?_
 refine eS rfl ?_
 refine aq (_,[]) (fun τ=> aE _ (rfl:_=AV.ptr _ _)) ?_
 refine eZ rfl ?_
 refine aq (_,[]) (fun τ=> aS _ rfl rfl) ?_
 refine fH rfl ?_
 refine aq (_,[]) (fun τ=> aH _ aa rfl rfl rfl) ?_
 refine gF rfl ?_
 refine aq (_,[]) (fun τ=> aK _ aa rfl rfl (rfl:_=some (AV.v (.int _ _)))) ?_
 refine kv rfl ?_
 refine aq (_,[]) (fun τ=> bf _ _ aa rfl rfl _ rfl ab (by (simp only [ba,bn,bl,bC,bz];omega)) ag) ?_
 refine ko rfl ?_
 refine aq (_,[]) (fun τ=> di _ aa rfl rfl) ?_
 refine gj rfl ?_
 refine aq (_,[]) (fun τ=> bH _ aa rfl (by exact nU _ _ ab) rfl) ?_
 refine gH rfl ?_
 refine aq (_,[]) (fun τ=> bP _ _ rfl rfl rfl) ?_
 refine lf rfl ?_
 refine aq (_,[]) (fun τ=> aE _ (rfl:_=AV.v (.bool _))) ?_
 refine mw (fun hg15=> ?_) (fun hg15=> ?_)
 ·skip
  have hr:dX T i= !ti (cX T i).t:=by unfold dX;rw [decide_eq_true ab];rfl
  refine lO rfl ?_
  refine bV (_,[]) rfl (fun τ=> rfl) (fun τ=> aE _ (rfl:_=AV.ptr _ _)) ?_
  refine pa rfl ?_
  refine bV (_,[]) rfl (fun τ=> rfl) (fun τ=> aS _ rfl rfl) ?_
  refine wb rfl ?_
  refine bV (_,[]) rfl (fun τ=> rfl) (fun τ=> aH _ aa rfl rfl rfl) ?_
  refine vi rfl ?_
  refine bV (_,[]) rfl (fun τ=> rfl) (fun τ=> aK _ aa rfl rfl (rfl:_=some (AV.sl _ _))) ?_
  refine wK rfl ?_
  refine bV (_,[]) rfl (fun τ=> rfl) (fun τ=> aE _ (rfl:_=AV.ptr _ _)) ?_
  refine yX rfl ?_
  refine bV (_,[]) rfl (fun τ=> rfl) (fun τ=> aS _ rfl rfl) ?_
  refine xx rfl ?_
  refine bV (_,[]) rfl (fun τ=> rfl) (fun τ=> aH _ aa rfl rfl rfl) ?_
  refine BR rfl ?_
  refine bV (_,[]) rfl (fun τ=> rfl) (fun τ=> aK _ aa rfl rfl (rfl:_=some (AV.v (.int _ _)))) ?_
  refine zD rfl ?_
  refine bV (_,[]) rfl (fun τ=> rfl) (fun τ=> bf _ _ aa rfl rfl _ rfl ab (by (simp only [ba,bn,bl,bC,bz];omega)) ag) ?_
  refine zQ rfl ?_
  refine bV (_,[]) rfl (fun τ=> rfl) (fun τ=> di _ aa rfl rfl) ?_
  refine Am rfl ?_
  refine bV (_,[]) rfl (fun τ=> rfl) (fun τ=> bH _ aa rfl (by exact lV _ _ ab) rfl) ?_
  refine Br rfl ?_
  refine bV (_,[]) rfl (fun τ=> rfl) (fun τ=> (aL aa al (kG (cX T i).t) rfl rfl)) ?_
  refine BY rfl ?_
  refine bV (_,[]) rfl (fun τ=> rfl) (fun τ=> dc _ rfl rfl) ?_
  refine BZ rfl ?_
  refine aq (_,[]) (fun τ=> aD _ _ _ rfl (rfl:_=AV.v (.bool _))) ?_
  refine BL rfl ?_
  refine aq (_,[]) (fun τ=> bG _ (rfl:_=AV.v (.bool _))) ?_
  refine AM rfl (bh ⟨rfl,?_⟩)
  exact aj (aC (aY (.inr rfl) rfl (.tmp (rfl:_=AV.v (.bool _))) (Le.outI [] [] (ic hr) rfl rfl rfl trivial ob tr rfl)))
 ·skip
  have hr:dX T i=false:=by unfold dX;rw [decide_eq_false ab];rfl
  refine lO rfl ?_
  refine cN rfl (fun τ=> rfl) ah ?_
  refine pa rfl ?_
  refine cN rfl (fun τ=> rfl) ah ?_
  refine wb rfl ?_
  refine cN rfl (fun τ=> rfl) ah ?_
  refine vi rfl ?_
  refine cN rfl (fun τ=> rfl) ah ?_
  refine wK rfl ?_
  refine cN rfl (fun τ=> rfl) ah ?_
  refine yX rfl ?_
  refine cN rfl (fun τ=> rfl) ah ?_
  refine xx rfl ?_
  refine cN rfl (fun τ=> rfl) ah ?_
  refine BR rfl ?_
  refine cN rfl (fun τ=> rfl) ah ?_
  refine zD rfl ?_
  refine cN rfl (fun τ=> rfl) ah ?_
  refine zQ rfl ?_
  refine cN rfl (fun τ=> rfl) ah ?_
  refine Am rfl ?_
  refine cN rfl (fun τ=> rfl) ah ?_
  refine Br rfl ?_
  refine cN rfl (fun τ=> rfl) ah ?_
  refine BY rfl ?_
  refine cN rfl (fun τ=> rfl) ah ?_
  refine BZ rfl ?_
  refine aq (_,[]) (fun τ=> aD _ _ _ rfl (rfl:_=AV.v (.bool _))) ?_
  refine BL rfl ?_
  refine aq (_,[]) (fun τ=> bG _ (rfl:_=AV.v (.bool _))) ?_
  refine AM rfl (bh ⟨rfl,?_⟩)
  exact aj (aC (aY (.inr rfl) rfl (.tmp (rfl:_=AV.v (.bool _))) (Le.outI [] [] (ic hr) rfl rfl rfl trivial ob tr rfl)))
theorem cq (T:List Tk) (i:Nat) (N:List Tx) (hi:i < T.length) (hT:T.length≤100000):
  Spec Tryz.prog 196 (be [.ptr (0,9) 0] (dF T i N)) (bg (.tup []) (dF T (bR T i) N) [(0,9)] [(0,9)]):=by
 refine Spec.ofNI Tryz.func196 rfl Tryz.ntmps196 rfl ?_
 refine ap (bF 11 [2,3,4,5,6,7,8,9,10,11,12] [] ae ae rfl (aM rfl) (rfl:_=[_,_,_,_,_,_,_,_,_,_,_]) (rfl:_=[]) ?_)
 refine aq (_,[]) (fun τ=> aE _ (rfl:_=AV.ptr _ _)) ?_
 refine eJ rfl ?_
 refine aq (_,[]) (fun τ=> aS _ rfl rfl) ?_
 refine eK rfl ?_
 refine aq (_,[]) (fun τ=> aH _ aa rfl rfl rfl) ?_
 refine eH rfl ?_
 refine aq (_,[]) (fun τ=> aK _ aa rfl rfl (rfl:_=some (AV.v (.int _ _)))) ?_
 refine eS rfl ?_
 refine aq (_,[]) (fun τ=> bc _ _ rfl rfl (bq ab)) ?_
 refine eZ rfl ?_
 refine aq (_,[]) (fun τ=> aE _ (rfl:_=AV.ptr _ _)) ?_
 refine fH rfl ?_
 refine aq (_,[]) (fun τ=> aS _ rfl rfl) ?_
 refine gF rfl ?_
 refine aq (_,[]) (fun τ=> aH _ aa rfl rfl rfl) ?_
 refine kv rfl ?_
 refine aq (_,[]) (fun τ=> aK _ aa rfl rfl (rfl:_=some (AV.sl _ _))) ?_
 refine ko rfl ?_
 refine aq (_,[]) (fun τ=> bE _ aa rfl) ?_
 refine gj rfl ?_
 refine aq (_,[]) (fun τ=> bo _ _ rfl rfl rfl) ?_
 refine gH rfl (bh ⟨rfl,?_⟩)
 refine aj (aT rfl (fun hc12=> ?_) (fun hc12=> ?_))
 ·skip
  have ht:bR T i=i+1:=by unfold bR;rw [if_pos ab]
  refine an (bi rfl (ai (aS _ rfl rfl) (bA rfl rfl rfl (cC rfl rfl rfl (ai (bc _ _ rfl rfl (bq ab)) ?_)))))
  exact ai (aS _ rfl rfl) (bA rfl rfl rfl (bO rfl rfl rfl rfl rfl rfl (az (eN (.inl rfl) rfl (Le.outI [] [] (.tup rfl bu) rfl rfl rfl trivial ⟨⟨rfl,⟨_,rfl, .box rfl (aI .sl (aI (ck (by rw [ht] <;> omega)) lz))⟩,rfl⟩,trivial⟩ tr rfl)))))
 ·skip
  have ht:bR T i=i:=by unfold bR;rw [if_neg ab]
  exact bv (eN (.inl rfl) rfl (Le.outI [] [] (.tup rfl bu) rfl rfl rfl trivial ⟨⟨rfl,⟨_,rfl, .box rfl (aI .sl (aI (ck (by rw [ht] <;> omega)) lz))⟩,rfl⟩,trivial⟩ tr rfl))
theorem eY (T:List Tk) (i j:Nat) (N:List Tx) (s:Tx) (hi:i < T.length) (hT:T.length≤100000) (h:fQ T s i=some j):
  Spec Tryz.prog 162 (be [.ptr (0,9) 0, .v (bt s)] (dF T i N)) (bg (.tup []) (dF T j N) [(0,9)] [(0,9)]):=by
 have ⟨hs,hj⟩:(cX T i).t=s∧bR T i=j:=by
  unfold fQ at h
  split at h
  ·exact ⟨by assumption,Option.some.inj h⟩
  ·cases h
 subst hs
 subst hj
 refine Spec.ofNI Tryz.func162 rfl Tryz.ntmps162 rfl ?_
 refine ap (am (bi rfl (ai (aS _ rfl rfl) (bA rfl rfl rfl (cC rfl rfl rfl (iY rfl rfl rfl (cJ rfl (ax rfl rfl (aE _ (rfl:_=AV.ptr _ _)) (ax rfl rfl (br aa _ _ ar (bT T i N hi) tr rfl ae (by simp)) ?_)))))))))
 refine ax rfl rfl (aE _ (rfl:_=AV.v (.string _))) (ax rfl rfl (ql (r:=false) _ _ Tryz.underlying9 rfl rfl (by exact bne_self_eq_false _)) ?_)
 refine ai (aD _ _ _ rfl (rfl:_=AV.v (.bool _))) (aj (aP rfl rfl (aJ (am (bi rfl (ai (aS _ rfl rfl) (bA rfl rfl rfl (cC rfl rfl rfl (iY rfl rfl rfl (aj ?_))))))))))
 refine bD rfl rfl ?_
 refine aN (σ':=aB 28 [(0,_)] [((0,9),_)] [(0,9)] [(0,9)]) kp ?_
 refine an (bi rfl (ai (aO (cq T i N hi hT)) ?_))
 exact az (eN (.inl rfl) rfl (Le.outI [] [] (.tup rfl bu) rfl rfl rfl trivial ob tr rfl))
theorem ji {T:List Tk} {s:Tx} {lv i j:Nat} (h:pJ T s lv i=some j):lv≤20∧fQ T s i=some j:=by
 unfold pJ at h
 split at h
 ·cases h
 ·rename_i hn
  refine ⟨?_,h⟩
  unfold fQ at h
  split at h
  ·rename_i ht
   exact Nat.le_of_not_lt fun hl=> hn ⟨ht,hl⟩
  ·cases h
theorem ii {T:List Tk} {s:Tx} {i j:Nat} (h:fQ T s i=some j) (hi:i < T.length):j < T.length:=by
 unfold fQ at h
 split at h
 ·rw [← Option.some.inj h];exact dM hi
 ·cases h
theorem my (T:List Tk) (i j:Nat) (N:List Tx) (s:Tx) (lv:Nat) (hi:i < T.length) (hT:T.length≤100000) (h:pJ T s lv i=some j):
  Spec Tryz.prog 201 (be [.ptr (0,9) 0, .v (bt s), .v (.int .i64 (lv:Int))] (dF T i N)) (bg (.tup []) (dF T j N) [(0,9)] [(0,9)]):=by
 obtain ⟨hl,he⟩:=ji h
 refine Spec.ofNI Tryz.func201 rfl Tryz.ntmps201 rfl ?_
 refine ap (am (bi rfl (ai (aS _ rfl rfl) (bA rfl rfl rfl (cC rfl rfl rfl (iY rfl rfl rfl (cJ rfl (ax rfl rfl (aE _ (rfl:_=AV.ptr _ _)) (ax rfl rfl (br aa _ _ ar (bT T i N hi) tr rfl ae (by simp)) ?_)))))))))
 refine ax rfl rfl (aE _ (rfl:_=AV.v (.string _))) (ax rfl rfl (aU _ _ Tryz.underlying9 rfl rfl rfl) (ai (aD _ _ _ rfl (rfl:_=AV.v (.bool _))) (cJ rfl (dE (fun hg17=> ?_) (fun hg17=> ?_)))))
 ·skip
  refine ax rfl rfl (aE _ (rfl:_=AV.v (.int _ _))) (ax rfl rfl (cP (r:=false) _ _ rfl rfl (decide_eq_false ab)) ?_)
  refine ai (aD _ _ _ rfl (rfl:_=AV.v (.bool _))) (aj (aP rfl rfl (aJ ?_)))
  refine aN (σ':=aB 30 [(0,_),(1,_)] [((0,9),_)] [(0,9)] [(0,9)]) kp ?_
  refine an (bi rfl (dK rfl (ai (aO (eY T i j N s hi hT he)) ?_)))
  exact az (eN (.inl rfl) rfl (Le.outI [] [] (.tup rfl bu) rfl rfl rfl trivial ob tr rfl))
 ·skip
  refine aW rfl rfl ah ?_
  refine aW rfl rfl ah ?_
  refine ai (aD _ _ _ rfl (rfl:_=AV.v (.bool _))) (aj (aP rfl rfl (aJ ?_)))
  refine aN (σ':=aB 30 [(0,_),(1,_)] [((0,9),_)] [(0,9)] [(0,9)]) kp ?_
  refine an (bi rfl (dK rfl (ai (aO (eY T i j N s hi hT he)) ?_)))
  exact az (eN (.inl rfl) rfl (Le.outI [] [] (.tup rfl bu) rfl rfl rfl trivial ob tr rfl))
theorem jS (T:List Tk) (i:Nat) (N:List Tx) (most:Nat) (hi:i < T.length) (hT:T.length≤100000) (hm:most≤1000) (r:Nat×Nat) (h:mT T most i=some r):
  Spec Tryz.prog 200 (be [.ptr (0,9) 0, .v (.int .i64 (most:Int))] (dF T i N)) (bg (.v (.int .i64 (r.1:Int))) (dF T r.2 N) [(0,9)] [(0,9)]):=by
 have ⟨h1,h2,h3⟩:(cX T i).k=2∧(cX T i).n≤most∧r=((cX T i).n,bR T i):=by
  unfold mT at h
  split at h
  ·rename_i hx;exact ⟨hx.1,hx.2,(Option.some.inj h).symm⟩
  ·cases h
 subst h3
 refine Spec.ofNI Tryz.func200 rfl Tryz.ntmps200 rfl ?_
 refine am (aZ rfl (aj (ap (bF 11 [6,7,8,9,10,11,12,13,14,15,5] [(5,0)] ae ae rfl (aM rfl) (rfl:_=[_,_,_,_,_,_,_,_,_,_,_]) (rfl:_=[_]) ?_))))
 refine aq (_,[]) (fun τ=> aE _ (rfl:_=AV.ptr _ _)) ?_
 refine eJ rfl ?_
 refine aq (_,[]) (fun τ=> aS _ rfl rfl) ?_
 refine eK rfl ?_
 refine aq (_,[]) (fun τ=> aH _ aa rfl rfl rfl) ?_
 refine eH rfl ?_
 refine aq (_,[]) (fun τ=> aK _ aa rfl rfl (rfl:_=some (AV.sl _ _))) ?_
 refine eS rfl ?_
 refine aq (_,[]) (fun τ=> aE _ (rfl:_=AV.ptr _ _)) ?_
 refine eZ rfl ?_
 refine aq (_,[]) (fun τ=> aS _ rfl rfl) ?_
 refine fH rfl ?_
 refine aq (_,[]) (fun τ=> aH _ aa rfl rfl rfl) ?_
 refine gF rfl ?_
 refine aq (_,[]) (fun τ=> aK _ aa rfl rfl (rfl:_=some (AV.v (.int _ _)))) ?_
 refine kv rfl ?_
 refine aq (_,[]) (fun τ=> bf _ _ aa rfl rfl _ rfl ab (by (simp only [ba,bn,bl,bC,bz];omega)) ag) ?_
 refine ko rfl ?_
 refine aq (_,[]) (fun τ=> cd _ aa rfl (by exact lU _ _ hi) rfl) ?_
 refine gj rfl ?_
 refine aq (_,[((5,0),_)]) (fun τ=> ay (5,0) aa rfl rfl) ?_
 refine gH rfl (bh ⟨rfl,?_⟩)
 refine bO rfl rfl rfl rfl rfl rfl (aj (ap (am (bA rfl rfl rfl (cC rfl rfl rfl (ai (ca _ _ rfl rfl rfl) (aj (aP rfl (by rw [h1];rfl) ?_))))))))
 refine ap ?_
 refine aN (σ':=aB 44 [(0,_),(1,_),(5,_)] [((0,9),_),((5,0),_)] [(0,9)] [(0,9)]) kp ?_
 refine an (bA rfl rfl rfl (cC rfl rfl rfl (aQ rfl (ai (cP _ _ rfl rfl rfl) (aj (aP rfl (decide_eq_false ab) ?_))))))
 refine aJ (ap (am (bi rfl (ai (aS _ rfl rfl) (bA rfl rfl rfl (cC rfl rfl rfl (ai (ca (r:=false) _ _ rfl rfl rfl) (aj (aP rfl rfl (aJ ?_))))))))))
 refine am (bi rfl (ai (aO (cq T i N hi hT)) ?_))
 exact aj (am (bA rfl rfl rfl (cC rfl rfl rfl (aZ rfl (aj (aC (aY (.inr rfl) rfl (.tmp (rfl:_=AV.v _)) (Le.outI [] [] .v rfl rfl rfl trivial ob tr rfl))))))))
abbrev Bf (T:List Tk) (i:Nat) (N:List Tx):List (aG×Cells):=[((0,9), .box 222 [.sl T.length (pY T), .v (.int .i64 (i:Int)), .v (.int .i64 0), .v (.int .i64 0), .ref (1,9) 0 N.length]),((1,9), .row 9 1 (dT N))]
theorem em (T:List Tk) (i:Nat) (N:List Tx) (hi:i < T.length):
  Spec Tryz.prog 160 (be [.ptr (0,9) 0] (Bf T i N)) (bg (.v (bt (cX T i).t)) (Bf T i N) [(0,9),(1,9)] [(0,9),(1,9)]):=by
 refine Spec.ofNI Tryz.func160 rfl Tryz.ntmps160 rfl ?_
 refine am (ja rfl (aj (ap (bF 12 [3,4,5,6,7,8,9,10,11,12,13,2] [] ae ae rfl (aM rfl) (rfl:_=[_,_,_,_,_,_,_,_,_,_,_,_]) (rfl:_=[]) ?_))))
 refine aq (_,[]) (fun τ=> aE _ (rfl:_=AV.ptr _ _)) ?_
 refine eJ rfl ?_
 refine aq (_,[]) (fun τ=> aS _ rfl rfl) ?_
 refine eK rfl ?_
 refine aq (_,[]) (fun τ=> aH _ aa rfl rfl rfl) ?_
 refine eH rfl ?_
 refine aq (_,[]) (fun τ=> aK _ aa rfl rfl (rfl:_=some (AV.sl _ _))) ?_
 refine eS rfl ?_
 refine aq (_,[]) (fun τ=> aE _ (rfl:_=AV.ptr _ _)) ?_
 refine eZ rfl ?_
 refine aq (_,[]) (fun τ=> aS _ rfl rfl) ?_
 refine fH rfl ?_
 refine aq (_,[]) (fun τ=> aH _ aa rfl rfl rfl) ?_
 refine gF rfl ?_
 refine aq (_,[]) (fun τ=> aK _ aa rfl rfl (rfl:_=some (AV.v (.int _ _)))) ?_
 refine kv rfl ?_
 refine aq (_,[]) (fun τ=> bf _ _ aa rfl rfl _ rfl ab (by (simp only [ba,bn,bl,bC,bz];omega)) ag) ?_
 refine ko rfl ?_
 refine aq (_,[]) (fun τ=> di _ aa rfl rfl) ?_
 refine gj rfl ?_
 refine aq (_,[]) (fun τ=> bH _ aa rfl (by exact lV _ _ ab) rfl) ?_
 refine gH rfl ?_
 refine aq (_,[]) (fun τ=> bG _ (rfl:_=AV.v (.string _))) ?_
 refine lf rfl (bh ⟨rfl,?_⟩)
 exact aj (aC (aY (.inr rfl) rfl (.tmp (rfl:_=AV.v _)) (Le.outI [] [] .v rfl rfl rfl trivial ob tr rfl)))
theorem tg (T:List Tk) (i:Nat) (N:List Tx) (hi:i < T.length):
  Spec Tryz.prog 197 (be [.ptr (0,9) 0] (Bf T i N)) (bg (.v (.bool (dX T i))) (Bf T i N) [(0,9),(1,9)] [(0,9),(1,9)]):=by
 refine Spec.ofNI Tryz.func197 rfl Tryz.ntmps197 rfl ?_
 refine am (ct rfl (aj (ap (bF 28 [3,4,5,6,7,8,9,10,11,12,13,14,15,16,17,18,19,20,21,22,23,24,25,26,27,28,29,2] [] ae ae rfl (aM rfl) (rfl:_=[_,_,_,_,_,_,_,_,_,_,_,_,_,_,_,_,_,_,_,_,_,_,_,_,_,_,_,_]) (rfl:_=[]) ?_))))
 refine aq (_,[]) (fun τ=> aE _ (rfl:_=AV.ptr _ _)) ?_
 refine eJ rfl ?_
 refine aq (_,[]) (fun τ=> aS _ rfl rfl) ?_
 refine eK rfl ?_
 refine aq (_,[]) (fun τ=> aH _ aa rfl rfl rfl) ?_
 refine eH rfl ?_
 refine aq (_,[]) (fun τ=> aK _ aa rfl rfl (rfl:_=some (AV.sl _ _))) ?_
 refine eS rfl ?_
 refine aq (_,[]) (fun τ=> aE _ (rfl:_=AV.ptr _ _)) ?_
 refine eZ rfl ?_
 refine aq (_,[]) (fun τ=> aS _ rfl rfl) ?_
 refine fH rfl ?_
 refine aq (_,[]) (fun τ=> aH _ aa rfl rfl rfl) ?_
 refine gF rfl ?_
 refine aq (_,[]) (fun τ=> aK _ aa rfl rfl (rfl:_=some (AV.v (.int _ _)))) ?_
 refine kv rfl ?_
 refine aq (_,[]) (fun τ=> bf _ _ aa rfl rfl _ rfl ab (by (simp only [ba,bn,bl,bC,bz];omega)) ag) ?_
 refine ko rfl ?_
 refine aq (_,[]) (fun τ=> di _ aa rfl rfl) ?_
 refine gj rfl ?_
 refine aq (_,[]) (fun τ=> bH _ aa rfl (by exact nU _ _ ab) rfl) ?_
 refine gH rfl ?_
 refine aq (_,[]) (fun τ=> bP _ _ rfl rfl rfl) ?_
 refine lf rfl ?_
 refine aq (_,[]) (fun τ=> aE _ (rfl:_=AV.v (.bool _))) ?_
 refine mw (fun hg15=> ?_) (fun hg15=> ?_)
 ·skip
  have hr:dX T i= !ti (cX T i).t:=by unfold dX;rw [decide_eq_true ab];rfl
  refine lO rfl ?_
  refine bV (_,[]) rfl (fun τ=> rfl) (fun τ=> aE _ (rfl:_=AV.ptr _ _)) ?_
  refine pa rfl ?_
  refine bV (_,[]) rfl (fun τ=> rfl) (fun τ=> aS _ rfl rfl) ?_
  refine wb rfl ?_
  refine bV (_,[]) rfl (fun τ=> rfl) (fun τ=> aH _ aa rfl rfl rfl) ?_
  refine vi rfl ?_
  refine bV (_,[]) rfl (fun τ=> rfl) (fun τ=> aK _ aa rfl rfl (rfl:_=some (AV.sl _ _))) ?_
  refine wK rfl ?_
  refine bV (_,[]) rfl (fun τ=> rfl) (fun τ=> aE _ (rfl:_=AV.ptr _ _)) ?_
  refine yX rfl ?_
  refine bV (_,[]) rfl (fun τ=> rfl) (fun τ=> aS _ rfl rfl) ?_
  refine xx rfl ?_
  refine bV (_,[]) rfl (fun τ=> rfl) (fun τ=> aH _ aa rfl rfl rfl) ?_
  refine BR rfl ?_
  refine bV (_,[]) rfl (fun τ=> rfl) (fun τ=> aK _ aa rfl rfl (rfl:_=some (AV.v (.int _ _)))) ?_
  refine zD rfl ?_
  refine bV (_,[]) rfl (fun τ=> rfl) (fun τ=> bf _ _ aa rfl rfl _ rfl ab (by (simp only [ba,bn,bl,bC,bz];omega)) ag) ?_
  refine zQ rfl ?_
  refine bV (_,[]) rfl (fun τ=> rfl) (fun τ=> di _ aa rfl rfl) ?_
  refine Am rfl ?_
  refine bV (_,[]) rfl (fun τ=> rfl) (fun τ=> bH _ aa rfl (by exact lV _ _ ab) rfl) ?_
  refine Br rfl ?_
  refine bV (_,[]) rfl (fun τ=> rfl) (fun τ=> (aL aa al (kG (cX T i).t) rfl rfl)) ?_
  refine BY rfl ?_
  refine bV (_,[]) rfl (fun τ=> rfl) (fun τ=> dc _ rfl rfl) ?_
  refine BZ rfl ?_
  refine aq (_,[]) (fun τ=> aD _ _ _ rfl (rfl:_=AV.v (.bool _))) ?_
  refine BL rfl ?_
  refine aq (_,[]) (fun τ=> bG _ (rfl:_=AV.v (.bool _))) ?_
  refine AM rfl (bh ⟨rfl,?_⟩)
  exact aj (aC (aY (.inr rfl) rfl (.tmp (rfl:_=AV.v (.bool _))) (Le.outI [] [] (ic hr) rfl rfl rfl trivial ob tr rfl)))
 ·skip
  have hr:dX T i=false:=by unfold dX;rw [decide_eq_false ab];rfl
  refine lO rfl ?_
  refine cN rfl (fun τ=> rfl) ah ?_
  refine pa rfl ?_
  refine cN rfl (fun τ=> rfl) ah ?_
  refine wb rfl ?_
  refine cN rfl (fun τ=> rfl) ah ?_
  refine vi rfl ?_
  refine cN rfl (fun τ=> rfl) ah ?_
  refine wK rfl ?_
  refine cN rfl (fun τ=> rfl) ah ?_
  refine yX rfl ?_
  refine cN rfl (fun τ=> rfl) ah ?_
  refine xx rfl ?_
  refine cN rfl (fun τ=> rfl) ah ?_
  refine BR rfl ?_
  refine cN rfl (fun τ=> rfl) ah ?_
  refine zD rfl ?_
  refine cN rfl (fun τ=> rfl) ah ?_
  refine zQ rfl ?_
  refine cN rfl (fun τ=> rfl) ah ?_
  refine Am rfl ?_
  refine cN rfl (fun τ=> rfl) ah ?_
  refine Br rfl ?_
  refine cN rfl (fun τ=> rfl) ah ?_
  refine BY rfl ?_
  refine cN rfl (fun τ=> rfl) ah ?_
  refine BZ rfl ?_
  refine aq (_,[]) (fun τ=> aD _ _ _ rfl (rfl:_=AV.v (.bool _))) ?_
  refine BL rfl ?_
  refine aq (_,[]) (fun τ=> bG _ (rfl:_=AV.v (.bool _))) ?_
  refine AM rfl (bh ⟨rfl,?_⟩)
  exact aj (aC (aY (.inr rfl) rfl (.tmp (rfl:_=AV.v (.bool _))) (Le.outI [] [] (ic hr) rfl rfl rfl trivial ob tr rfl)))
theorem jo (T:List Tk) (i:Nat) (N:List Tx) (hi:i < T.length) (hT:T.length≤100000):
  Spec Tryz.prog 196 (be [.ptr (0,9) 0] (Bf T i N)) (bg (.tup []) (Bf T (bR T i) N) [(0,9),(1,9)] [(0,9),(1,9)]):=by
 refine Spec.ofNI Tryz.func196 rfl Tryz.ntmps196 rfl ?_
 refine ap (bF 11 [2,3,4,5,6,7,8,9,10,11,12] [] ae ae rfl (aM rfl) (rfl:_=[_,_,_,_,_,_,_,_,_,_,_]) (rfl:_=[]) ?_)
 refine aq (_,[]) (fun τ=> aE _ (rfl:_=AV.ptr _ _)) ?_
 refine eJ rfl ?_
 refine aq (_,[]) (fun τ=> aS _ rfl rfl) ?_
 refine eK rfl ?_
 refine aq (_,[]) (fun τ=> aH _ aa rfl rfl rfl) ?_
 refine eH rfl ?_
 refine aq (_,[]) (fun τ=> aK _ aa rfl rfl (rfl:_=some (AV.v (.int _ _)))) ?_
 refine eS rfl ?_
 refine aq (_,[]) (fun τ=> bc _ _ rfl rfl (bq ab)) ?_
 refine eZ rfl ?_
 refine aq (_,[]) (fun τ=> aE _ (rfl:_=AV.ptr _ _)) ?_
 refine fH rfl ?_
 refine aq (_,[]) (fun τ=> aS _ rfl rfl) ?_
 refine gF rfl ?_
 refine aq (_,[]) (fun τ=> aH _ aa rfl rfl rfl) ?_
 refine kv rfl ?_
 refine aq (_,[]) (fun τ=> aK _ aa rfl rfl (rfl:_=some (AV.sl _ _))) ?_
 refine ko rfl ?_
 refine aq (_,[]) (fun τ=> bE _ aa rfl) ?_
 refine gj rfl ?_
 refine aq (_,[]) (fun τ=> bo _ _ rfl rfl rfl) ?_
 refine gH rfl (bh ⟨rfl,?_⟩)
 refine aj (aT rfl (fun hc12=> ?_) (fun hc12=> ?_))
 ·skip
  have ht:bR T i=i+1:=by unfold bR;rw [if_pos ab]
  refine an (bi rfl (ai (aS _ rfl rfl) (bA rfl rfl rfl (cC rfl rfl rfl (ai (bc _ _ rfl rfl (bq ab)) ?_)))))
  exact ai (aS _ rfl rfl) (bA rfl rfl rfl (bO rfl rfl rfl rfl rfl rfl (az (eN (.inl rfl) rfl (Le.outI [] [] (.tup rfl bu) rfl rfl rfl trivial ⟨⟨rfl,⟨_,rfl, .box rfl (aI .sl (aI (ck (by rw [ht] <;> omega)) lz))⟩,rfl⟩,⟨rfl,⟨_,rfl, .rowE rfl⟩,rfl⟩,trivial⟩ tr rfl)))))
 ·skip
  have ht:bR T i=i:=by unfold bR;rw [if_neg ab]
  exact bv (eN (.inl rfl) rfl (Le.outI [] [] (.tup rfl bu) rfl rfl rfl trivial ⟨⟨rfl,⟨_,rfl, .box rfl (aI .sl (aI (ck (by rw [ht] <;> omega)) lz))⟩,rfl⟩,⟨rfl,⟨_,rfl, .rowE rfl⟩,rfl⟩,trivial⟩ tr rfl))
theorem qF (T:List Tk) (i j:Nat) (N:List Tx) (s:Tx) (hi:i < T.length) (hT:T.length≤100000) (h:fQ T s i=some j):
  Spec Tryz.prog 162 (be [.ptr (0,9) 0, .v (bt s)] (Bf T i N)) (bg (.tup []) (Bf T j N) [(0,9),(1,9)] [(0,9),(1,9)]):=by
 have ⟨hs,hj⟩:(cX T i).t=s∧bR T i=j:=by
  unfold fQ at h
  split at h
  ·exact ⟨by assumption,Option.some.inj h⟩
  ·cases h
 subst hs
 subst hj
 refine Spec.ofNI Tryz.func162 rfl Tryz.ntmps162 rfl ?_
 refine ap (am (bi rfl (ai (aS _ rfl rfl) (bA rfl rfl rfl (cC rfl rfl rfl (iY rfl rfl rfl (cJ rfl (ax rfl rfl (aE _ (rfl:_=AV.ptr _ _)) (ax rfl rfl (br aa _ _ ar (em T i N hi) tr rfl ae (by simp)) ?_)))))))))
 refine ax rfl rfl (aE _ (rfl:_=AV.v (.string _))) (ax rfl rfl (ql (r:=false) _ _ Tryz.underlying9 rfl rfl (by exact bne_self_eq_false _)) ?_)
 refine ai (aD _ _ _ rfl (rfl:_=AV.v (.bool _))) (aj (aP rfl rfl (aJ (am (bi rfl (ai (aS _ rfl rfl) (bA rfl rfl rfl (cC rfl rfl rfl (iY rfl rfl rfl (aj ?_))))))))))
 refine bD rfl rfl ?_
 refine aN (σ':=aB 28 [(0,_)] [((0,9),_),((1,9),_)] [(0,9),(1,9)] [(0,9),(1,9)]) kp ?_
 refine an (bi rfl (ai (da aa [] ar (jo T i N hi hT) ob tr ae) ?_))
 exact az (eN (.inl rfl) rfl (Le.outI [] [] (.tup rfl bu) rfl rfl rfl trivial ob tr rfl))
end Go.Proofs.YtmjnackchaahbaaGreat
