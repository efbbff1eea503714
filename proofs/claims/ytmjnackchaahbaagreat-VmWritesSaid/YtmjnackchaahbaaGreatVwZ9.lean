/- Part 9 of the texts that the walk leans on: the machine, the walks, the plain laws. -/
import Derived.Test.YtmjnackchaahbaaGreatVwZ8
set_option linter.unusedSimpArgs false
set_option linter.unusedVariables false
namespace Go.Proofs.YtmjnackchaahbaaGreat

instance SP:Bld Tryz.prog 24 Gs (fun i=> some (i*1,1)):=Bld.array (bytes:=320) (.agg (Gs).toArray) Tryz.underlying24 ae rfl (by simp [Value.oneCell']) ae
instance SU:Bld Tryz.prog 25 Et (fun i=> ([(0,1),(1,40),(41,1),(42,1)]:List (Nat×Nat))[i]?):=Bld.struct (bytes:=360) (.agg (Et).toArray) [(0,1),(1,40),(41,1),(42,1)] Tryz.underlying25 ae rfl (by simp [Value.oneCell']) (fun w=> by kernel_rfl)
instance Tu:Bld Tryz.prog 26 Et (fun i=> ([(0,1),(1,40),(41,1),(42,1)]:List (Nat×Nat))[i]?):=Bld.struct (bytes:=360) (.agg (Et).toArray) [(0,1),(1,40),(41,1),(42,1)] Tryz.underlying26 ae rfl (by simp [Value.oneCell']) (fun w=> by kernel_rfl)
instance RY:Bld Tryz.prog 30 ua (fun i=> some (i*1,1)):=Bld.array (bytes:=72) (.agg (ua).toArray) Tryz.underlying30 ae rfl (by simp [Value.oneCell']) ae
instance TE:Bld Tryz.prog 33 Cj (fun i=> ([(0,1),(1,1),(2,1),(3,1),(4,1)]:List (Nat×Nat))[i]?):=Bld.struct (bytes:=88) (.agg (Cj).toArray) [(0,1),(1,1),(2,1),(3,1),(4,1)] Tryz.underlying33 ae rfl (by simp [Value.oneCell']) (fun w=> by kernel_rfl)
instance Sg:Bld Tryz.prog 34 Cj (fun i=> ([(0,1),(1,1),(2,1),(3,1),(4,1)]:List (Nat×Nat))[i]?):=Bld.struct (bytes:=88) (.agg (Cj).toArray) [(0,1),(1,1),(2,1),(3,1),(4,1)] Tryz.underlying34 ae rfl (by simp [Value.oneCell']) (fun w=> by kernel_rfl)
instance Rt:Bld Tryz.prog 38 Ce (fun i=> ([(0,1),(1,1),(2,1),(3,1),(4,1),(5,1)]:List (Nat×Nat))[i]?):=Bld.struct (bytes:=112) (.agg (Ce).toArray) [(0,1),(1,1),(2,1),(3,1),(4,1),(5,1)] Tryz.underlying38 ae rfl (by simp [Value.oneCell']) (fun w=> by kernel_rfl)
instance Th:Bld Tryz.prog 39 Ce (fun i=> ([(0,1),(1,1),(2,1),(3,1),(4,1),(5,1)]:List (Nat×Nat))[i]?):=Bld.struct (bytes:=112) (.agg (Ce).toArray) [(0,1),(1,1),(2,1),(3,1),(4,1),(5,1)] Tryz.underlying39 ae rfl (by simp [Value.oneCell']) (fun w=> by kernel_rfl)
instance Ss:Bld Tryz.prog 44 [.int .i64 0, .int .i64 0] (fun i=> some (i*1,1)):=Bld.array (bytes:=16) (.agg #[.int .i64 0, .int .i64 0]) Tryz.underlying44 ae rfl (by simp [Value.oneCell']) ae
instance SQ:Bld Tryz.prog 47 [.int .i64 0, .int .i64 0] (fun i=> ([(0,1),(1,1)]:List (Nat×Nat))[i]?):=Bld.struct (bytes:=16) (.agg #[.int .i64 0, .int .i64 0]) [(0,1),(1,1)] Tryz.underlying47 ae rfl (by simp [Value.oneCell']) (fun w=> by kernel_rfl)
instance Ro:Bld Tryz.prog 48 [.int .i64 0, .int .i64 0] (fun i=> ([(0,1),(1,1)]:List (Nat×Nat))[i]?):=Bld.struct (bytes:=16) (.agg #[.int .i64 0, .int .i64 0]) [(0,1),(1,1)] Tryz.underlying48 ae rfl (by simp [Value.oneCell']) (fun w=> by kernel_rfl)
instance RO:Bld Tryz.prog 56 mO (fun i=> ([(0,1),(1,1),(2,1),(3,1),(4,1)]:List (Nat×Nat))[i]?):=Bld.struct (bytes:=40) (.agg (mO).toArray) [(0,1),(1,1),(2,1),(3,1),(4,1)] Tryz.underlying56 ae rfl (by simp [Value.oneCell']) (fun w=> by kernel_rfl)
instance Ry:Bld Tryz.prog 57 mO (fun i=> ([(0,1),(1,1),(2,1),(3,1),(4,1)]:List (Nat×Nat))[i]?):=Bld.struct (bytes:=40) (.agg (mO).toArray) [(0,1),(1,1),(2,1),(3,1),(4,1)] Tryz.underlying57 ae rfl (by simp [Value.oneCell']) (fun w=> by kernel_rfl)
instance Tz:Bld Tryz.prog 63 Ev (fun i=> ([(0,1),(1,1),(2,1)]:List (Nat×Nat))[i]?):=Bld.struct (bytes:=72) (.agg (Ev).toArray) [(0,1),(1,1),(2,1)] Tryz.underlying63 ae rfl (by simp [Value.oneCell']) (fun w=> by kernel_rfl)
instance Tr:Bld Tryz.prog 64 Ev (fun i=> ([(0,1),(1,1),(2,1)]:List (Nat×Nat))[i]?):=Bld.struct (bytes:=72) (.agg (Ev).toArray) [(0,1),(1,1),(2,1)] Tryz.underlying64 ae rfl (by simp [Value.oneCell']) (fun w=> by kernel_rfl)
instance Tj:Bld Tryz.prog 70 Cr (fun i=> ([(0,1),(1,1),(2,1),(3,1)]:List (Nat×Nat))[i]?):=Bld.struct (bytes:=56) (.agg (Cr).toArray) [(0,1),(1,1),(2,1),(3,1)] Tryz.underlying70 ae rfl (by simp [Value.oneCell']) (fun w=> by kernel_rfl)
instance RW:Bld Tryz.prog 71 Cr (fun i=> ([(0,1),(1,1),(2,1),(3,1)]:List (Nat×Nat))[i]?):=Bld.struct (bytes:=56) (.agg (Cr).toArray) [(0,1),(1,1),(2,1),(3,1)] Tryz.underlying71 ae rfl (by simp [Value.oneCell']) (fun w=> by kernel_rfl)
instance Sx:Bld Tryz.prog 72 Cv (fun i=> ([(0,1),(1,4)]:List (Nat×Nat))[i]?):=Bld.struct (bytes:=64) (.agg (Cv).toArray) [(0,1),(1,4)] Tryz.underlying72 ae rfl (by simp [Value.oneCell']) (fun w=> by kernel_rfl)
instance Rw:Bld Tryz.prog 73 Cv (fun i=> ([(0,1),(1,4)]:List (Nat×Nat))[i]?):=Bld.struct (bytes:=64) (.agg (Cv).toArray) [(0,1),(1,4)] Tryz.underlying73 ae rfl (by simp [Value.oneCell']) (fun w=> by kernel_rfl)
instance RV:Bld Tryz.prog 79 [.slice none 0 0, .slice none 0 0] (fun i=> ([(0,1),(1,1)]:List (Nat×Nat))[i]?):=Bld.struct (bytes:=48) (.agg #[.slice none 0 0, .slice none 0 0]) [(0,1),(1,1)] Tryz.underlying79 ae rfl (by simp [Value.oneCell']) (fun w=> by kernel_rfl)
instance TX:Bld Tryz.prog 80 [.slice none 0 0, .slice none 0 0] (fun i=> ([(0,1),(1,1)]:List (Nat×Nat))[i]?):=Bld.struct (bytes:=48) (.agg #[.slice none 0 0, .slice none 0 0]) [(0,1),(1,1)] Tryz.underlying80 ae rfl (by simp [Value.oneCell']) (fun w=> by kernel_rfl)
instance RU:Bld Tryz.prog 81 HQ (fun i=> some (i*1,1)):=Bld.array (bytes:=328) (.agg (HQ).toArray) Tryz.underlying81 ae rfl (by simp [Value.oneCell']) ae
instance SF:Bld Tryz.prog 82 vQ (fun i=> ([(0,1),(1,1),(2,1),(3,1),(4,2),(6,1),(7,1),(8,41),(49,1),(50,1),(51,1)]:List (Nat×Nat))[i]?):=Bld.struct (bytes:=480) (.agg (vQ).toArray) [(0,1),(1,1),(2,1),(3,1),(4,2),(6,1),(7,1),(8,41),(49,1),(50,1),(51,1)] Tryz.underlying82 ae rfl (by simp [Value.oneCell']) (fun w=> by kernel_rfl)
instance Sp:Bld Tryz.prog 83 vQ (fun i=> ([(0,1),(1,1),(2,1),(3,1),(4,2),(6,1),(7,1),(8,41),(49,1),(50,1),(51,1)]:List (Nat×Nat))[i]?):=Bld.struct (bytes:=480) (.agg (vQ).toArray) [(0,1),(1,1),(2,1),(3,1),(4,2),(6,1),(7,1),(8,41),(49,1),(50,1),(51,1)] Tryz.underlying83 ae rfl (by simp [Value.oneCell']) (fun w=> by kernel_rfl)
instance TW:Bld Tryz.prog 86 uO (fun i=> ([(0,1),(1,1),(2,9),(11,1),(12,1),(13,1),(14,1)]:List (Nat×Nat))[i]?):=Bld.struct (bytes:=152) (.agg (uO).toArray) [(0,1),(1,1),(2,9),(11,1),(12,1),(13,1),(14,1)] Tryz.underlying86 ae rfl (by simp [Value.oneCell']) (fun w=> by kernel_rfl)
instance Tt:Bld Tryz.prog 87 uO (fun i=> ([(0,1),(1,1),(2,9),(11,1),(12,1),(13,1),(14,1)]:List (Nat×Nat))[i]?):=Bld.struct (bytes:=152) (.agg (uO).toArray) [(0,1),(1,1),(2,9),(11,1),(12,1),(13,1),(14,1)] Tryz.underlying87 ae rfl (by simp [Value.oneCell']) (fun w=> by kernel_rfl)
instance Tc:Bld Tryz.prog 90 uV (fun i=> ([(0,1),(1,1),(2,1)]:List (Nat×Nat))[i]?):=Bld.struct (bytes:=24) (.agg (uV).toArray) [(0,1),(1,1),(2,1)] Tryz.underlying90 ae rfl (by simp [Value.oneCell']) (fun w=> by kernel_rfl)
instance To:Bld Tryz.prog 91 uV (fun i=> ([(0,1),(1,1),(2,1)]:List (Nat×Nat))[i]?):=Bld.struct (bytes:=24) (.agg (uV).toArray) [(0,1),(1,1),(2,1)] Tryz.underlying91 ae rfl (by simp [Value.oneCell']) (fun w=> by kernel_rfl)
instance TK:Bld Tryz.prog 92 Ar (fun i=> ([(0,52),(52,1),(53,1),(54,1),(55,1),(56,1),(57,3),(60,6),(66,1)]:List (Nat×Nat))[i]?):=Bld.struct (bytes:=728) (.agg (Ar).toArray) [(0,52),(52,1),(53,1),(54,1),(55,1),(56,1),(57,3),(60,6),(66,1)] Tryz.underlying92 ae rfl (by simp [Value.oneCell']) (fun w=> by kernel_rfl)
instance Tf:Bld Tryz.prog 93 Ar (fun i=> ([(0,52),(52,1),(53,1),(54,1),(55,1),(56,1),(57,3),(60,6),(66,1)]:List (Nat×Nat))[i]?):=Bld.struct (bytes:=728) (.agg (Ar).toArray) [(0,52),(52,1),(53,1),(54,1),(55,1),(56,1),(57,3),(60,6),(66,1)] Tryz.underlying93 ae rfl (by simp [Value.oneCell']) (fun w=> by kernel_rfl)
instance SE:Bld Tryz.prog 95 uY (fun i=> ([(0,3),(3,1),(4,1),(5,1),(6,1),(7,5)]:List (Nat×Nat))[i]?):=Bld.struct (bytes:=176) (.agg (uY).toArray) [(0,3),(3,1),(4,1),(5,1),(6,1),(7,5)] Tryz.underlying95 ae rfl (by simp [Value.oneCell']) (fun w=> by kernel_rfl)
instance Tq:Bld Tryz.prog 96 uY (fun i=> ([(0,3),(3,1),(4,1),(5,1),(6,1),(7,5)]:List (Nat×Nat))[i]?):=Bld.struct (bytes:=176) (.agg (uY).toArray) [(0,3),(3,1),(4,1),(5,1),(6,1),(7,5)] Tryz.underlying96 ae rfl (by simp [Value.oneCell']) (fun w=> by kernel_rfl)
instance QL:Bld Tryz.prog 102 ra (fun i=> ([(0,3),(3,1),(4,1)]:List (Nat×Nat))[i]?):=Bld.struct (bytes:=72) (.agg (ra).toArray) [(0,3),(3,1),(4,1)] Tryz.underlying102 ae rfl (by simp [Value.oneCell']) (fun w=> by kernel_rfl)
instance Po:Bld Tryz.prog 103 ra (fun i=> ([(0,3),(3,1),(4,1)]:List (Nat×Nat))[i]?):=Bld.struct (bytes:=72) (.agg (ra).toArray) [(0,3),(3,1),(4,1)] Tryz.underlying103 ae rfl (by simp [Value.oneCell']) (fun w=> by kernel_rfl)
instance OA:Bld Tryz.prog 108 mO (fun i=> ([(0,3),(3,1),(4,1)]:List (Nat×Nat))[i]?):=Bld.struct (bytes:=40) (.agg (mO).toArray) [(0,3),(3,1),(4,1)] Tryz.underlying108 ae rfl (by simp [Value.oneCell']) (fun w=> by kernel_rfl)
instance Nk:Bld Tryz.prog 109 mO (fun i=> ([(0,3),(3,1),(4,1)]:List (Nat×Nat))[i]?):=Bld.struct (bytes:=40) (.agg (mO).toArray) [(0,3),(3,1),(4,1)] Tryz.underlying109 ae rfl (by simp [Value.oneCell']) (fun w=> by kernel_rfl)
instance Ok:Bld Tryz.prog 110 oQ (fun i=> ([(0,5),(5,1),(6,1)]:List (Nat×Nat))[i]?):=Bld.struct (bytes:=56) (.agg (oQ).toArray) [(0,5),(5,1),(6,1)] Tryz.underlying110 ae rfl (by simp [Value.oneCell']) (fun w=> by kernel_rfl)
instance Pt:Bld Tryz.prog 111 oQ (fun i=> ([(0,5),(5,1),(6,1)]:List (Nat×Nat))[i]?):=Bld.struct (bytes:=56) (.agg (oQ).toArray) [(0,5),(5,1),(6,1)] Tryz.underlying111 ae rfl (by simp [Value.oneCell']) (fun w=> by kernel_rfl)
instance OH:Bld Tryz.prog 114 mO (fun i=> ([(0,3),(3,1),(4,1)]:List (Nat×Nat))[i]?):=Bld.struct (bytes:=40) (.agg (mO).toArray) [(0,3),(3,1),(4,1)] Tryz.underlying114 ae rfl (by simp [Value.oneCell']) (fun w=> by kernel_rfl)
instance Np:Bld Tryz.prog 115 mO (fun i=> ([(0,3),(3,1),(4,1)]:List (Nat×Nat))[i]?):=Bld.struct (bytes:=40) (.agg (mO).toArray) [(0,3),(3,1),(4,1)] Tryz.underlying115 ae rfl (by simp [Value.oneCell']) (fun w=> by kernel_rfl)
instance Pc:Bld Tryz.prog 116 ua (fun i=> ([(0,5),(5,1),(6,1),(7,1),(8,1)]:List (Nat×Nat))[i]?):=Bld.struct (bytes:=72) (.agg (ua).toArray) [(0,5),(5,1),(6,1),(7,1),(8,1)] Tryz.underlying116 ae rfl (by simp [Value.oneCell']) (fun w=> by kernel_rfl)
instance QV:Bld Tryz.prog 117 ua (fun i=> ([(0,5),(5,1),(6,1),(7,1),(8,1)]:List (Nat×Nat))[i]?):=Bld.struct (bytes:=72) (.agg (ua).toArray) [(0,5),(5,1),(6,1),(7,1),(8,1)] Tryz.underlying117 ae rfl (by simp [Value.oneCell']) (fun w=> by kernel_rfl)
instance QS:Bld Tryz.prog 125 [.int .i64 0, .int .i64 0] (fun i=> ([(0,1),(1,1)]:List (Nat×Nat))[i]?):=Bld.struct (bytes:=16) (.agg #[.int .i64 0, .int .i64 0]) [(0,1),(1,1)] Tryz.underlying125 ae rfl (by simp [Value.oneCell']) (fun w=> by kernel_rfl)
instance QZ:Bld Tryz.prog 126 [.int .i64 0, .int .i64 0] (fun i=> ([(0,1),(1,1)]:List (Nat×Nat))[i]?):=Bld.struct (bytes:=16) (.agg #[.int .i64 0, .int .i64 0]) [(0,1),(1,1)] Tryz.underlying126 ae rfl (by simp [Value.oneCell']) (fun w=> by kernel_rfl)
instance Pk:Bld Tryz.prog 128 vn (fun i=> ([(0,1),(1,1),(2,1)]:List (Nat×Nat))[i]?):=Bld.struct (bytes:=56) (.agg (vn).toArray) [(0,1),(1,1),(2,1)] Tryz.underlying128 ae rfl (by simp [Value.oneCell']) (fun w=> by kernel_rfl)
instance Oe:Bld Tryz.prog 129 vn (fun i=> ([(0,1),(1,1),(2,1)]:List (Nat×Nat))[i]?):=Bld.struct (bytes:=56) (.agg (vn).toArray) [(0,1),(1,1),(2,1)] Tryz.underlying129 ae rfl (by simp [Value.oneCell']) (fun w=> by kernel_rfl)
instance Na:Bld Tryz.prog 131 uC (fun i=> ([(0,1),(1,9)]:List (Nat×Nat))[i]?):=Bld.struct (bytes:=96) (.agg (uC).toArray) [(0,1),(1,9)] Tryz.underlying131 ae rfl (by simp [Value.oneCell']) (fun w=> by kernel_rfl)
instance Ox:Bld Tryz.prog 132 uC (fun i=> ([(0,1),(1,9)]:List (Nat×Nat))[i]?):=Bld.struct (bytes:=96) (.agg (uC).toArray) [(0,1),(1,9)] Tryz.underlying132 ae rfl (by simp [Value.oneCell']) (fun w=> by kernel_rfl)
instance Rf:Bld Tryz.prog 138 [.slice none 0 0, .int .i64 0] (fun i=> ([(0,1),(1,1)]:List (Nat×Nat))[i]?):=Bld.struct (bytes:=32) (.agg #[.slice none 0 0, .int .i64 0]) [(0,1),(1,1)] Tryz.underlying138 ae rfl (by simp [Value.oneCell']) (fun w=> by kernel_rfl)
instance OZ:Bld Tryz.prog 139 [.slice none 0 0, .int .i64 0] (fun i=> ([(0,1),(1,1)]:List (Nat×Nat))[i]?):=Bld.struct (bytes:=32) (.agg #[.slice none 0 0, .int .i64 0]) [(0,1),(1,1)] Tryz.underlying139 ae rfl (by simp [Value.oneCell']) (fun w=> by kernel_rfl)
instance Py:Bld Tryz.prog 142 vo (fun i=> ([(0,3),(3,1)]:List (Nat×Nat))[i]?):=Bld.struct (bytes:=96) (.agg (vo).toArray) [(0,3),(3,1)] Tryz.underlying142 ae rfl (by simp [Value.oneCell']) (fun w=> by kernel_rfl)
instance Nx:Bld Tryz.prog 143 vo (fun i=> ([(0,3),(3,1)]:List (Nat×Nat))[i]?):=Bld.struct (bytes:=96) (.agg (vo).toArray) [(0,3),(3,1)] Tryz.underlying143 ae rfl (by simp [Value.oneCell']) (fun w=> by kernel_rfl)
instance PY:Bld Tryz.prog 170 wn (fun i=> ([(0,43),(43,10),(53,1),(54,5),(59,1),(60,1),(61,1),(62,1),(63,1)]:List (Nat×Nat))[i]?):=Bld.struct (bytes:=608) (.agg (wn).toArray) [(0,43),(43,10),(53,1),(54,5),(59,1),(60,1),(61,1),(62,1),(63,1)] Tryz.underlying170 ae rfl (by simp [Value.oneCell']) (fun w=> by kernel_rfl)
instance OX:Bld Tryz.prog 171 wn (fun i=> ([(0,43),(43,10),(53,1),(54,5),(59,1),(60,1),(61,1),(62,1),(63,1)]:List (Nat×Nat))[i]?):=Bld.struct (bytes:=608) (.agg (wn).toArray) [(0,43),(43,10),(53,1),(54,5),(59,1),(60,1),(61,1),(62,1),(63,1)] Tryz.underlying171 ae rfl (by simp [Value.oneCell']) (fun w=> by kernel_rfl)
instance Pe:Bld Tryz.prog 173 zJ (fun i=> some (i*1,1)):=Bld.array (bytes:=192) (.agg (zJ).toArray) Tryz.underlying173 ae rfl (by simp [Value.oneCell']) ae
instance QM:Bld Tryz.prog 176 [] (fun i=> ([]:List (Nat×Nat))[i]?):=Bld.struct (bytes:=0) (.agg #[]) [] Tryz.underlying176 ae rfl (by simp [Value.oneCell']) (fun w=> by kernel_rfl)
instance QW:Bld Tryz.prog 191 vC (fun i=> ([(0,1),(1,1),(2,1),(3,1)]:List (Nat×Nat))[i]?):=Bld.struct (bytes:=32) (.agg (vC).toArray) [(0,1),(1,1),(2,1),(3,1)] Tryz.underlying191 ae rfl (by simp [Value.oneCell']) (fun w=> by kernel_rfl)
instance OL:Bld Tryz.prog 192 vC (fun i=> ([(0,1),(1,1),(2,1),(3,1)]:List (Nat×Nat))[i]?):=Bld.struct (bytes:=32) (.agg (vC).toArray) [(0,1),(1,1),(2,1),(3,1)] Tryz.underlying192 ae rfl (by simp [Value.oneCell']) (fun w=> by kernel_rfl)
instance NF:Bld Tryz.prog 195 qY (fun i=> ([(0,5),(5,1)]:List (Nat×Nat))[i]?):=Bld.struct (bytes:=48) (.agg (qY).toArray) [(0,5),(5,1)] Tryz.underlying195 ae rfl (by simp [Value.oneCell']) (fun w=> by kernel_rfl)
instance Qh:Bld Tryz.prog 196 qY (fun i=> ([(0,5),(5,1)]:List (Nat×Nat))[i]?):=Bld.struct (bytes:=48) (.agg (qY).toArray) [(0,5),(5,1)] Tryz.underlying196 ae rfl (by simp [Value.oneCell']) (fun w=> by kernel_rfl)
instance Qq:Bld Tryz.prog 221 vg (fun i=> ([(0,1),(1,1),(2,1),(3,1),(4,1)]:List (Nat×Nat))[i]?):=Bld.struct (bytes:=72) (.agg (vg).toArray) [(0,1),(1,1),(2,1),(3,1),(4,1)] Tryz.underlying221 ae rfl (by simp [Value.oneCell']) (fun w=> by kernel_rfl)
instance NG:Bld Tryz.prog 222 vg (fun i=> ([(0,1),(1,1),(2,1),(3,1),(4,1)]:List (Nat×Nat))[i]?):=Bld.struct (bytes:=72) (.agg (vg).toArray) [(0,1),(1,1),(2,1),(3,1),(4,1)] Tryz.underlying222 ae rfl (by simp [Value.oneCell']) (fun w=> by kernel_rfl)
instance Ny:Bld Tryz.prog 224 rO (fun i=> ([(0,1),(1,1),(2,1),(3,1)]:List (Nat×Nat))[i]?):=Bld.struct (bytes:=40) (.agg (rO).toArray) [(0,1),(1,1),(2,1),(3,1)] Tryz.underlying224 ae rfl (by simp [Value.oneCell']) (fun w=> by kernel_rfl)
instance Oy:Bld Tryz.prog 225 rO (fun i=> ([(0,1),(1,1),(2,1),(3,1)]:List (Nat×Nat))[i]?):=Bld.struct (bytes:=40) (.agg (rO).toArray) [(0,1),(1,1),(2,1),(3,1)] Tryz.underlying225 ae rfl (by simp [Value.oneCell']) (fun w=> by kernel_rfl)
instance Nu:Bld Tryz.prog 287 Fk (fun i=> ([(0,1),(1,1),(2,1),(3,1),(4,1),(5,1),(6,1),(7,1),(8,1),(9,1),(10,1)]:List (Nat×Nat))[i]?):=Bld.struct (bytes:=48) (.agg (Fk).toArray) [(0,1),(1,1),(2,1),(3,1),(4,1),(5,1),(6,1),(7,1),(8,1),(9,1),(10,1)] Tryz.underlying287 ae rfl (by simp [Value.oneCell']) (fun w=> by kernel_rfl)
def hP (n m:Int):Int:=(if n < 0 then -(n+1) else n) % m
theorem pw (n m:Int) (h:0 < m):0≤hP n m:=Int.emod_nonneg _ ab
theorem pJ (n m:Int) (h:0 < m):hP n m < m:=Int.emod_lt_of_pos _ h
theorem jE (n m:Int) (hm:1≤m) (h1:m≤4611686018427387904) (h2: -9223372036854775808≤n) (h3:n≤9223372036854775807):
  Spec Tryz.prog 33 (bj [.v (.int .i64 n), .v (.int .i64 m)] []) (aW (.v (.int .i64 (hP n m))) []):=by
 refine Spec.ofN Tryz.func33 rfl Tryz.ntmps33 rfl ?_
 refine am (ba rfl (aj (aq (am (aQ rfl (ai (bp _ _ rfl rfl rfl) (aj (aU rfl (fun hc6=> ?_) (fun hc6=> ?_)))))))))
 ·skip
  refine an (aQ rfl (ai (be _ _ rfl rfl (bq ab)) ?_))
  refine ai (tA _ rfl (bq ab)) ?_
  refine ba rfl (aj (am (aQ rfl (aQ rfl (ai (cY _ _ rfl rfl ab (Int.tmod_eq_emod_of_nonneg ab)) ?_)))))
  refine ba rfl (aj (aC (aY (.inr rfl) rfl (.tmp (rfl:_=AV.v (.int _ _))) (Le.out [] [] (ci ?_) rfl rfl rfl trivial trivial))))
  unfold hP
  rw [if_pos hc6]
 ·skip
  refine aI (am (aQ rfl (aQ rfl (ai (cY _ _ rfl rfl ab (Int.tmod_eq_emod_of_nonneg ab)) ?_))))
  refine ba rfl (aj (aC (aY (.inr rfl) rfl (.tmp (rfl:_=AV.v (.int _ _))) (Le.out [] [] (ci ?_) rfl rfl rfl trivial trivial))))
  unfold hP
  rw [if_neg ab]

theorem uK (n m:Nat) (xs ys:List Int) (hn:xs.length=n) (hm:ys.length=m) (h1:n≤4611686018427387904) (h2:m≤4611686018427387904):
  Spec Tryz.prog 30 (bj [.sl n (de xs), .sl m (de ys)] []) (aW (.v (.bool (decide (xs=ys)))) []):=by
 subst hn;subst hm
 refine Spec.ofN Tryz.func30 rfl Tryz.ntmps30 rfl ?_
 refine am (ct rfl (aj (aq (am (eJ rfl (ai (bB _ aa rfl) (eJ rfl (ai (bB _ aa rfl) (ai (bX _ _ rfl rfl rfl) (aj ?_))))))))))
 refine aU rfl (fun hc10=> ?_) (fun hc10=> ?_)
 ·skip
  refine am (ct rfl (aj (aC (aY (.inr rfl) rfl (.tmp (rfl:_=AV.v (.bool _))) (Le.out [] [] (hZ ?_) rfl rfl rfl trivial trivial)))))
  exact decide_eq_false fun h=> by subst h;omega
 ·skip
  refine aI (aF fun K5 hK5=> ?_)
  refine am (ba rfl (aj (au ?_)))
  refine bD (α:=Nat) (fun k=> k≤xs.length∧xs.length=ys.length∧xs.take k=ys.take k) 26 [(0,_),(1,_)] [] (fun k=> [(5, .v (.int .i64 (k:Int)))]) (fun k=> []) [] [] (fun k=> xs.length - k) 0 ?_ (by
   refine Le.mkJ [] [] rfl ?_ ?_ trivial trivial ?_
   ·exact ⟨(by exact iS rfl),(by exact iS rfl),(ci ag),trivial⟩
   ·exact trivial
   ·kernel_rfl) ?_
  ·exact ⟨by omega,by omega,rfl⟩
  intro k hk
  obtain ⟨hk,hl,ht⟩:=hk
  refine aF fun K7 hK7=> ?_
  refine am (aQ rfl (eJ rfl (ai (bB _ aa rfl) (ai (bp _ _ rfl rfl rfl) (aj (aU rfl (fun hc14=> ?_) (fun hc14=> ?_)))))))
  ·skip
   have hkx:k < xs.length:=by omega
   have hky:k < ys.length:=by omega
   refine bw (hK7 _ ?_)
   clear hK7;try clear K7
   refine aq (au (aq ?_))
   refine aM (σ':=aB 26 [(0,_),(1,_),(5,_)] [] [] []) (by
    refine Le.mkJ [] [] rfl ?_ ?_ trivial trivial ?_
    ·exact ⟨(by exact iS rfl),(by exact iS rfl),(iV rfl),trivial⟩
    ·exact trivial
    ·kernel_rfl) ?_
   refine bG 9 [17,18,19,20,21,22,23,24,25] [] ae ae rfl (aL rfl) (rfl:_=[_,_,_,_,_,_,_,_,_]) (rfl:_=[]) ?_
   refine ap (_,[]) (fun τ=> aD _ (rfl:_=AV.sl _ _)) ?_
   refine eH rfl ?_
   refine ap (_,[]) (fun τ=> aD _ (rfl:_=AV.v (.int _ _))) ?_
   refine eG rfl ?_
   refine ap (_,[]) (fun τ=> bf _ _ aa rfl rfl _ rfl ab (by (simp only [aZ,bm,bl];omega)) (by exact Nat.mul_one _)) ?_
   refine eI rfl ?_
   refine ap (_,[]) (fun τ=> bC _ aa rfl (by exact dV _ _ ab) rfl) ?_
   refine eQ rfl ?_
   refine ap (_,[]) (fun τ=> aD _ (rfl:_=AV.sl _ _)) ?_
   refine fb rfl ?_
   refine ap (_,[]) (fun τ=> aD _ (rfl:_=AV.v (.int _ _))) ?_
   refine fB rfl ?_
   refine ap (_,[]) (fun τ=> bf _ _ aa rfl rfl _ rfl ab (by (simp only [aZ,bm,bl];omega)) (by exact Nat.mul_one _)) ?_
   refine gD rfl ?_
   refine ap (_,[]) (fun τ=> bC _ aa rfl (by exact dV _ _ ab) rfl) ?_
   refine jL rfl ?_
   refine ap (_,[]) (fun τ=> bX _ _ rfl rfl rfl) ?_
   refine jF rfl (bh ⟨rfl,?_⟩)
   refine aj (aU rfl (fun hc25=> ?_) (fun hc25=> ?_))
   ·skip
    refine am (ct rfl (aj (aC (aY (.inr rfl) rfl (.tmp (rfl:_=AV.v (.bool _))) (Le.out [] [] (hZ ?_) rfl rfl rfl trivial trivial)))))
    exact decide_eq_false fun h=> by subst h;exact hc25 rfl
   ·skip
    refine cf (an (aQ rfl (ai (be _ _ rfl rfl (bq ab)) ?_)))
    refine ba rfl (az (⟨k+1,?_,?_,?_⟩))
    ·refine ⟨by omega,hl,?_⟩
     rw [qt _ _ _ hkx,qt _ _ _ hky] at hc25
     rw [List.take_succ_eq_append_getElem hkx,List.take_succ_eq_append_getElem hky,ht,hc25]
    ·skip
     refine Le.mkJ [] [] rfl ?_ ?_ trivial trivial ?_
     ·exact ⟨(by exact iS rfl),(by exact iS rfl),(ci ag),trivial⟩
     ·exact trivial
     ·kernel_rfl
    ·omega
  ·skip
   refine bL (id (hK5 _ ?_))
   clear hK5;try clear K5
   refine am (ct rfl (aj (aC (aY (.inr rfl) rfl (.tmp (rfl:_=AV.v (.bool _))) (Le.out [] [] (hZ ?_) rfl rfl rfl trivial trivial)))))
   rw [List.take_of_length_le ab,List.take_of_length_le ab] at ht
   exact decide_eq_true ht

theorem mF (b:UInt8):Spec Tryz.prog 221 (bj [.v (.int .u8 (b.toNat:Int))] []) (aW (.v (.bool (lP b))) []):=by
 have h:=wV b
 refine Spec.ofN Tryz.func221 rfl Tryz.ntmps221 rfl ?_
 refine am (ct rfl (aj (am (aQ rfl (ai (eN _ _ rfl rfl rfl) (cP rfl (dJ (fun hg5=> ?_) (fun hg5=> ?_))))))))
 ·skip
  have h:lP b=decide ((b.toNat:Int)≤122):=by rw [Bool.eq_iff_iff,h];simp [hg5]
  refine ay rfl rfl (aD _ (rfl:_=AV.v (.int _ _))) (ay rfl rfl (bM _ _ rfl rfl rfl) (ai (aG _ _ _ rfl (rfl:_=AV.v (.bool _))) (ct rfl (aj (aC (aY (.inr rfl) rfl (.tmp (rfl:_=AV.v (.bool _))) (Le.out [] [] (hZ ?_) rfl rfl rfl trivial trivial)))))))
  exact h
 ·skip
  have h:lP b=false:=Cg h (fun x=> by omega)
  refine aX rfl rfl ah ?_
  refine aX rfl rfl ah ?_
  refine ai (aG _ _ _ rfl (rfl:_=AV.v (.bool _))) (ct rfl (aj (aC (aY (.inr rfl) rfl (.tmp (rfl:_=AV.v (.bool _))) (Le.out [] [] (hZ ?_) rfl rfl rfl trivial trivial)))))
  exact h
theorem ld (b:UInt8):Spec Tryz.prog 222 (bj [.v (.int .u8 (b.toNat:Int))] []) (aW (.v (.bool (fI b))) []):=by
 have h:=rV b
 refine Spec.ofN Tryz.func222 rfl Tryz.ntmps222 rfl ?_
 refine am (ct rfl (aj (am (aQ rfl (ai (eN _ _ rfl rfl rfl) (cP rfl (dJ (fun hg5=> ?_) (fun hg5=> ?_))))))))
 ·skip
  have h:fI b=decide ((b.toNat:Int)≤57):=by rw [Bool.eq_iff_iff,h];simp [hg5]
  refine ay rfl rfl (aD _ (rfl:_=AV.v (.int _ _))) (ay rfl rfl (bM _ _ rfl rfl rfl) (ai (aG _ _ _ rfl (rfl:_=AV.v (.bool _))) (ct rfl (aj (aC (aY (.inr rfl) rfl (.tmp (rfl:_=AV.v (.bool _))) (Le.out [] [] (hZ ?_) rfl rfl rfl trivial trivial)))))))
  exact h
 ·skip
  have h:fI b=false:=Cg h (fun x=> by omega)
  refine aX rfl rfl ah ?_
  refine aX rfl rfl ah ?_
  refine ai (aG _ _ _ rfl (rfl:_=AV.v (.bool _))) (ct rfl (aj (aC (aY (.inr rfl) rfl (.tmp (rfl:_=AV.v (.bool _))) (Le.out [] [] (hZ ?_) rfl rfl rfl trivial trivial)))))
  exact h
theorem ow (l:List Tx) (n:Nat) (hn:l.length=n) (h1:n≤1000) (t:Tx):Spec Tryz.prog 224 (bj [.sl n (dS l), .v (bt t)] []) (aW (.v (.bool (decide (t∈l)))) []):=by
 refine Spec.ofN Tryz.func224 rfl Tryz.ntmps224 rfl ?_
 refine am (ct rfl (aj (aF fun K2 hK2=> ?_)))
 refine am (ba rfl (aj (au ?_)))
 refine bD (α:=Nat) (fun k=> k≤n∧t∉l.take k) 18 [(0,_),(1,_)] [] (fun k=> [(5, .v (.int .i64 (k:Int)))]) (fun k=> []) [] [] (fun k=> n - k) 0 ?_ (by
  refine Le.mkJ [] [] rfl ?_ ?_ trivial trivial ?_
  ·exact ⟨(iS rfl),(iV rfl),(ci ag),trivial⟩
  ·exact trivial
  ·kernel_rfl) ?_
 ·exact ⟨Nat.zero_le _,by simp⟩
 intro k hk
 obtain ⟨hk,hnt⟩:=hk
 refine aF fun K4 hK4=> ?_
 refine am (aQ rfl (eJ rfl (ai (bB _ aa rfl) (ai (bp _ _ rfl rfl rfl) (aj (aU rfl (fun hc9=> ?_) (fun hc9=> ?_)))))))
 ·skip
  refine bw (hK4 _ ?_)
  clear hK4;try clear K4
  refine aq (au (am (eJ rfl (aQ rfl (ai (bf _ _ aa rfl rfl _ rfl ab (by (simp only [aZ,bm,bl,bA];omega)) (by exact Nat.mul_one _)) ?_)))))
  refine ai (bC _ aa rfl (by exact fx _ _ ab) rfl) ?_
  refine dI rfl (ai (aT _ _ Tryz.underlying9 rfl rfl rfl) (aj (aU rfl (fun hc17=> ?_) (fun hc17=> ?_))))
  ·skip
   refine am (ct rfl (aj (aC (aY (.inr rfl) rfl (.tmp (rfl:_=AV.v (.bool _))) (Le.out [] [] (hZ ?_) rfl rfl rfl trivial trivial)))))
   exact decide_eq_true (hc17 ▸ iz ab)
  ·skip
   refine cf (an (aQ rfl (ai (be _ _ rfl rfl (bq ab)) ?_)))
   refine ba rfl (az (⟨k+1,?_,?_,?_⟩))
   ·exact ⟨by omega,jg hnt ab hc17⟩
   ·skip
    refine Le.mkJ [] [] rfl ?_ ?_ trivial trivial ?_
    ·exact ⟨(iS rfl),(iV rfl),(ci ag),trivial⟩
    ·exact trivial
    ·kernel_rfl
   ·omega
 ·skip
  have hall:t∉l:=by rwa [List.take_of_length_le ab] at hnt
  refine bL (id (hK2 _ ?_))
  clear hK2;try clear K2
  refine am (ct rfl (aj (aC (aY (.inr rfl) rfl (.tmp (rfl:_=AV.v (.bool _))) (Le.out [] [] (hZ ?_) rfl rfl rfl trivial trivial)))))
  exact decide_eq_false hall
theorem pL (s:Tx) (at_:Nat) (h1:s.length≤100000) (ha:at_≤s.length):Spec Tryz.prog 194 (bj [.v (bt s), .v (.int .i64 (at_:Int))] []) (aW (.v (.int .i64 (jw s at_ false:Int))) []):=by
 refine Spec.ofN Tryz.func194 rfl Tryz.ntmps194 rfl ?_
 refine am (ba rfl (aj (aF fun K2 hK2=> ?_)))
 refine au ?_
 refine bD (α:=Nat) (fun k=> k≤s.length∧jw s k false=jw s at_ false) 41 [(0,_)] [] (fun k=> [(1, .v (.int .i64 (k:Int)))]) (fun k=> []) [] [] (fun k=> s.length - k) at_ ?_ (by
  refine Le.mkJ [] [] rfl ?_ ?_ trivial trivial ?_
  ·exact ⟨(iV rfl),(ci ag),trivial⟩
  ·exact trivial
  ·kernel_rfl) ?_
 ·exact ⟨ha,rfl⟩
 intro k hk
 obtain ⟨hk,hs⟩:=hk
 refine aF fun K3 hK3=> ?_
 refine am (aQ rfl (dI rfl (ai (gp _ Tryz.underlying9 rfl) (ai (bp _ _ rfl rfl rfl) (aj (aU rfl (fun hc9=> ?_) (fun hc9=> ?_)))))))
 ·skip
  obtain ⟨b,hb⟩:=jm (s:=s) (a:=k) ab
  have hbi:=LH b
  refine bw (hK3 _ ?_)
  clear hK3;try clear K3
  refine au (am (dI rfl (aQ rfl (ai (jO _ _ Tryz.underlying9 rfl rfl (by assumption)) ?_))))
  refine ba rfl (aj (am (aQ rfl (ai (bR _ _ rfl rfl rfl) (aj (aU rfl (fun hc14=> ?_) (fun hc14=> ?_)))))))
  ·skip
   have hs:=(ze hb ab).symm.trans hs
   refine au ?_
   refine bD (α:=Nat) (fun j=> k≤j∧j≤s.length∧jw s j true=jw s at_ false∧(j=k→j < s.length)) 41 [(0,_)] [] (fun j=> [(1, .v (.int .i64 (j:Int)))]) (fun j=> []) [] [] (fun j=> s.length - j) k ?_ (by
    refine Le.mkJ [] [] rfl ?_ ?_ trivial trivial ?_
    ·exact ⟨(iV rfl),(ci ag),trivial⟩
    ·exact trivial
    ·kernel_rfl) ?_
   ·exact ⟨Nat.le_refl _,by omega,hs,fun _=> by omega⟩
   intro j hj
   obtain ⟨hj1,hj2,hsj,hjk⟩:=hj
   refine aF fun K7 hK7=> ?_
   refine aF fun K8 hK8=> ?_
   refine an (aQ rfl (dI rfl (ai (gp _ Tryz.underlying9 rfl) (ai (bp _ _ rfl rfl rfl) (cP rfl (dJ (fun hg19=> ?_) (fun hg19=> ?_)))))))
   ·skip
    obtain ⟨u,hu⟩:=jm (s:=s) (a:=j) ab
    have hui:=LH u
    refine ay rfl rfl (aD _ (rfl:_=AV.v (.string _))) (ay rfl rfl (aD _ (rfl:_=AV.v (.int _ _))) (ay rfl rfl (jO _ _ Tryz.underlying9 rfl rfl (by assumption)) ?_))
    refine ay rfl rfl (bX _ _ rfl rfl rfl) (ai (aG _ _ _ rfl (rfl:_=AV.v (.bool _))) (az (hK8 _ ?_)))
    clear hK8;try clear K8
    refine aU rfl (fun hc24=> ?_) (fun hc24=> ?_)
    ·skip
     refine bw (hK7 _ ?_)
     clear hK7;try clear K7
     refine au (an (aQ rfl (ai (be _ _ rfl rfl (bq ab)) ?_)))
     refine ba rfl (az (⟨j+1,?_,?_,?_⟩))
     ·exact ⟨by omega,by omega,(De hu ab).symm.trans hsj,fun _=> by omega⟩
     ·skip
      refine Le.mkJ [] [] rfl ?_ ?_ trivial trivial ?_
      ·exact ⟨(iV rfl),(ci ag),trivial⟩
      ·exact trivial
      ·kernel_rfl
     ·omega
    ·skip
     have hjs:jw s j false=jw s at_ false:=by rw [← hsj,CN hu ab]
     have hjk':k < j:=Nat.lt_of_le_of_ne hj1 fun e=> by subst e;rw [hb] at hu;obtain rfl:=Option.some.inj hu;omega
     refine bL (id (⟨j,?_,?_,?_⟩))
     ·exact ⟨hj2,hjs⟩
     ·skip
      refine Le.mkJ [] [] rfl ?_ ?_ trivial trivial ?_
      ·exact ⟨(iV rfl),(ci ag),trivial⟩
      ·exact trivial
      ·kernel_rfl
     ·omega
   ·skip
    have hjs:jw s j false=jw s at_ false:=by rw [← hsj,qK ab,qK ab]
    have hjk':k < j:=Nat.lt_of_le_of_ne hj1 fun e=> by have:=hjk e.symm;omega
    refine aX rfl rfl ah ?_
    refine aX rfl rfl ah ?_
    refine aX rfl rfl ah ?_
    refine aX rfl rfl ah ?_
    refine ai (aG _ _ _ rfl (rfl:_=AV.v (.bool _))) (az (hK8 _ ?_))
    clear hK8;try clear K8
    refine aP rfl rfl (bL (id (⟨j,?_,?_,?_⟩)))
    ·exact ⟨hj2,hjs⟩
    ·skip
     refine Le.mkJ [] [] rfl ?_ ?_ trivial trivial ?_
     ·exact ⟨(iV rfl),(ci ag),trivial⟩
     ·exact trivial
     ·kernel_rfl
    ·omega
  ·skip
   refine am (aQ rfl (ai (bR _ _ rfl rfl rfl) (cP rfl (dJ (fun hg29=> ?_) (fun hg29=> ?_)))))
   ·skip
    have hs2:jw s (k+1) false=jw s at_ false:=(sY hb ab ab).symm.trans hs
    refine aX rfl rfl ah ?_
    refine aX rfl rfl ah ?_
    refine ai (aG _ _ _ rfl (rfl:_=AV.v (.bool _))) (cP rfl (aX rfl rfl ah ?_))
    refine aX rfl rfl ah ?_
    refine ai (aG _ _ _ rfl (rfl:_=AV.v (.bool _))) (aj (bF rfl rfl ?_))
    refine aM (σ':=aB 41 [(0,_),(1,_)] [] [] []) kp ?_
    refine an (aQ rfl (ai (be _ _ rfl rfl (bq ab)) ?_))
    refine ba rfl (az (⟨k+1,?_,?_,?_⟩))
    ·exact ⟨by omega,hs2⟩
    ·skip
     refine Le.mkJ [] [] rfl ?_ ?_ trivial trivial ?_
     ·exact ⟨(iV rfl),(ci ag),trivial⟩
     ·exact trivial
     ·kernel_rfl
    ·omega
   ·skip
    refine ay rfl rfl (aD _ (rfl:_=AV.v (.int _ _))) (ay rfl rfl (bR _ _ rfl rfl rfl) (ai (aG _ _ _ rfl (rfl:_=AV.v (.bool _))) (cP rfl (dJ (fun hg33=> ?_) (fun hg33=> ?_)))))
    ·skip
     have hs2:jw s (k+1) false=jw s at_ false:=(sY hb ab ab).symm.trans hs
     refine aX rfl rfl ah ?_
     refine aX rfl rfl ah ?_
     refine ai (aG _ _ _ rfl (rfl:_=AV.v (.bool _))) (aj (bF rfl rfl ?_))
     refine aM (σ':=aB 41 [(0,_),(1,_)] [] [] []) kp ?_
     refine an (aQ rfl (ai (be _ _ rfl rfl (bq ab)) ?_))
     refine ba rfl (az (⟨k+1,?_,?_,?_⟩))
     ·exact ⟨by omega,hs2⟩
     ·skip
      refine Le.mkJ [] [] rfl ?_ ?_ trivial trivial ?_
      ·exact ⟨(iV rfl),(ci ag),trivial⟩
      ·exact trivial
      ·kernel_rfl
     ·omega
    ·skip
     refine ay rfl rfl (aD _ (rfl:_=AV.v (.int _ _))) (ay rfl rfl (bR _ _ rfl rfl rfl) (ai (aG _ _ _ rfl (rfl:_=AV.v (.bool _))) (aj (aU rfl (fun hc36=> ?_) (fun hc36=> ?_)))))
     ·skip
      have hs2:jw s (k+1) false=jw s at_ false:=(sY hb ab ab).symm.trans hs
      refine aM (σ':=aB 41 [(0,_),(1,_)] [] [] []) kp ?_
      refine an (aQ rfl (ai (be _ _ rfl rfl (bq ab)) ?_))
      refine ba rfl (az (⟨k+1,?_,?_,?_⟩))
      ·exact ⟨by omega,hs2⟩
      ·skip
       refine Le.mkJ [] [] rfl ?_ ?_ trivial trivial ?_
       ·exact ⟨(iV rfl),(ci ag),trivial⟩
       ·exact trivial
       ·kernel_rfl
      ·omega
     ·skip
      have hs3:=(Bp hb ab ab).symm.trans hs
      refine aq ?_
      refine aM (σ':=aB 41 [(1,_)] [] [] []) kp ?_
      refine an (aQ rfl (ba rfl (aj (aC (aY (.inr rfl) rfl (.tmp (rfl:_=AV.v (.int _ _))) (Le.out [] [] (ci ?_) rfl rfl rfl trivial trivial))))))
      rw [hs3]
 ·skip
  refine bL (id (hK2 _ ?_))
  clear hK2;try clear K2
  refine am (aQ rfl (ba rfl (aj (aC (aY (.inr rfl) rfl (.tmp (rfl:_=AV.v (.int _ _))) (Le.out [] [] (ci ?_) rfl rfl rfl trivial trivial))))))
  rw [← hs,qK ab]
theorem oo (s:Tx) (h1:s.length≤100000) (hd: ∀ b∈s,fI b=true) (hv:jx s≤2147483647):Spec Tryz.prog 223 (bj [.v (bt s)] []) (aW (.v (.int .i64 (jx s:Int))) []):=by
 have hvt:=fun i=> wm s i
 refine Spec.ofN Tryz.func223 rfl Tryz.ntmps223 rfl ?_
 refine am (ba rfl (aj (am (ba rfl (aj (aF fun K3 hK3=> ?_))))))
 refine am (ba rfl (aj (au ?_)))
 refine bD (α:=Nat) (fun k=> k≤s.length) 22 [(0,_)] [] (fun k=> [(3, .v (.int .i64 (jx (s.take k):Int))),(4, .v (.int .i64 (k:Int)))]) (fun k=> []) [] [] (fun k=> s.length - k) 0 ?_ (by
  refine Le.mkJ [] [] rfl ?_ ?_ trivial trivial ?_
  ·exact ⟨(iV rfl),(ci ag),(ci ag),trivial⟩
  ·exact trivial
  ·kernel_rfl) ?_
 ·omega
 intro k hk
 refine aF fun K5 hK5=> ?_
 refine am (aQ rfl (dI rfl (ai (gp _ Tryz.underlying9 rfl) (ai (bp _ _ rfl rfl rfl) (aj (aU rfl (fun hc8=> ?_) (fun hc8=> ?_)))))))
 ·skip
  obtain ⟨b,hb⟩:=jm (s:=s) (a:=k) ab
  have hbi:=LH b
  have hbd:=(rV b).1 (hd b (List.mem_of_getElem? hb))
  have hvs:=vX hb
  have hv0:=hvt k
  have hv1:=hvt (k+1)
  have hvi:(10:Int)*(jx (s.take k):Int)+(b.toNat:Int) - 48=(jx (s.take (k+1)):Int):=by omega
  refine bw (hK5 _ ?_)
  clear hK5;try clear K5
  refine aq (au (am (aQ rfl (ai (wP _ _ rfl rfl (bq ab)) ?_))))
  refine dI rfl (aQ rfl (ai (jO _ _ Tryz.underlying9 rfl rfl (by assumption)) ?_))
  refine ai (Az _ Tryz.underlying5 Tryz.underlying3 rfl (bq ab)) ?_
  refine ai (be _ _ rfl rfl (bq ab)) ?_
  refine ai (cb _ _ rfl rfl (bq ab)) ?_
  refine ba rfl (aj (am (aQ rfl (ai (dy _ _ rfl rfl rfl) (aj (aP rfl (decide_eq_false ab) ?_))))))
  refine cf ?_
  refine aM (σ':=aB 22 [(0,_),(3,_),(4,_)] [] [] []) kp ?_
  refine an (aQ rfl (ai (be _ _ rfl rfl (bq ab)) ?_))
  refine ba rfl (az (⟨k+1,?_,?_,?_⟩))
  ·omega
  ·skip
   refine Le.mkJ [] [] rfl ?_ ?_ trivial trivial ?_
   ·exact ⟨(iV rfl),(ci ab),(ci ag),trivial⟩
   ·exact trivial
   ·kernel_rfl
  ·omega
 ·skip
  have he:s.take k=s:=List.take_of_length_le ab
  refine bL (id (hK3 _ ?_))
  clear hK3;try clear K3
  refine am (aQ rfl (ba rfl (aj (aC (aY (.inr rfl) rfl (.tmp (rfl:_=AV.v (.int _ _))) (Le.out [] [] (ci ?_) rfl rfl rfl trivial trivial))))))
  rw [he]

theorem xZ {p:UInt8→Bool} {c:UInt8}: ∀ {l:List UInt8},c∈l.takeWhile p→p c=true
 | [],h=> by simp at h
 | x::l,h=> by
  rw [List.takeWhile_cons] at h
  split at h
  ·rename_i hx
   rcases List.mem_cons.1 h with rfl | h
   ·exact hx
   ·exact xZ h
  ·simp at h
def rY (c:UInt8):Bool:=lP c || fI c
theorem pG {s:Tx} {a:Nat} {b:UInt8} {t:Tk} (hb:s[a]? =some b) (h1:lP b=true) (h:oT (s.drop a) a=some t):jP rY s (a+1) - a≤10∧t=⟨1,a,(s.drop a).take (jP rY s (a+1) - a),0⟩:=by
 rw [rM hb]
 rw [ft hb,oT] at h
 simp only [h1,if_true] at h
 rw [show jP rY s (a+1) - a=(b::(s.drop (a+1)).takeWhile fun x=> lP x || fI x).length by unfold jP rY;rw [List.length_cons];omega]
 split at h
 ·cases h
 ·rename_i hl;exact ⟨by omega,(Option.some.inj h).symm⟩
theorem rQ {s:Tx} {a:Nat} {b:UInt8} {t:Tk} (hb:s[a]? =some b) (h1:lP b=false) (h2:fI b=true) (h:oT (s.drop a) a=some t):
  (∀ c∈(s.drop a).take (jP fI s (a+1) - a),fI c=true)∧jx ((s.drop a).take (jP fI s (a+1) - a))≤2147483647∧t=⟨2,a,(s.drop a).take (jP fI s (a+1) - a),jx ((s.drop a).take (jP fI s (a+1) - a))⟩:=by
 rw [rM hb]
 rw [ft hb,oT] at h
 simp only [h1,h2,if_true] at h
 simp only [Bool.false_eq_true,if_false] at h
 split at h
 ·cases h
 ·rename_i hl
  refine ⟨fun c hc=> ?_,by omega,(Option.some.inj h).symm⟩
  rcases List.mem_cons.1 hc with rfl | hc
  ·exact h2
  ·exact xZ hc
theorem rN {s:Tx} {a:Nat} {b:UInt8} {t:Tk} (hb:s[a]? =some b) (h1:lP b=false) (h2:fI b=false) (h:oT (s.drop a) a=some t):
  ((s.drop a).take 2∈Aq∧t=⟨3,a,(s.drop a).take 2,0⟩)∨((s.drop a).take 2∉Aq∧(s.drop a).take 1∈CI∧t=⟨3,a,(s.drop a).take 1,0⟩):=by
 rw [ft hb,oT] at h
 simp only [h1,h2,Bool.false_eq_true,if_false] at h
 rw [ft hb]
 split at h
 ·rename_i hm;exact .inl ⟨hm,(Option.some.inj h).symm⟩
 ·rename_i hm
  split at h
  ·rename_i hs;exact .inr ⟨hm,hs,(Option.some.inj h).symm⟩
  ·cases h
theorem uB {s:Tx} {a:Nat} (h:a < s.length):(s.drop a).take (min (a+2) s.length - a)=(s.drop a).take 2:=by
 by_cases h2:a+2≤s.length
 ·congr 1;omega
 ·rw [List.take_of_length_le (by rw [List.length_drop];omega),List.take_of_length_le (by rw [List.length_drop];omega)]
theorem tB (s:Tx) (a:Nat) (h1:s.length≤100000) (ha:a < s.length) (t:Tk) (ht:oT (s.drop a) a=some t):
  Spec Tryz.prog 195 (bj [.v (bt s), .v (.int .i64 (a:Int))] []) (aW (.tup [.agg [.v (.int .i64 (t.k:Int)), .v (.int .i64 (t.a:Int)), .v (bt t.t), .v (.int .i64 (t.n:Int))], .v (.int .i64 0)]) []):=by
 obtain ⟨b,hb⟩:=jm ha
 have hwl:=qB (p:=rY) (s:=s) (a:=a+1) ab
 have hdl:=qB (p:=fI) (s:=s) (a:=a+1) ab
 refine Spec.ofN Tryz.func195 rfl Tryz.ntmps195 rfl ?_
 refine am (ai (ax (4,0) aa rfl rfl) (ba rfl (aj (am (aQ rfl (ai (be _ _ rfl rfl (bq ab)) ?_))))))
 refine ba rfl (aj (aq (am (dI rfl (aQ rfl (ai (jO _ _ Tryz.underlying9 rfl rfl (by assumption)) ?_))))))
 refine ai (aK aa al (mF b) rfl rfl) ?_
 refine aj (aU rfl (fun hc15=> ?_) (fun hc15=> ?_))
 ·skip
  obtain ⟨htl,hte⟩:=pG hb hc15 ht
  refine aF fun K5 hK5=> ?_
  refine au ?_
  refine bD (α:=Nat) (fun e=> a+1≤e∧e≤s.length∧jP rY s e=jP rY s (a+1)) 101 [(0,_),(1,_),(4,_)] [((4,0),_)] (fun e=> [(6, .v (.int .i64 (e:Int)))]) (fun e=> []) [] [] (fun e=> s.length - e) (a+1) ?_ (by
   refine Le.mkJ [] [] rfl ?_ ?_ trivial trivial ?_
   ·exact ⟨(iV rfl),(iV rfl),(iP rfl),(ci ag),trivial⟩
   ·exact ⟨(cG rfl rfl rfl),trivial⟩
   ·kernel_rfl) ?_
  ·exact ⟨Nat.le_refl _,by omega,rfl⟩
  intro e he
  obtain ⟨he1,he2,het⟩:=he
  refine aF fun K6 hK6=> ?_
  refine aF fun K7 hK7=> ?_
  refine an (aQ rfl (dI rfl (ai (gp _ Tryz.underlying9 rfl) (ai (bp _ _ rfl rfl rfl) (cP rfl (dJ (fun hg20=> ?_) (fun hg20=> ?_)))))))
  ·skip
   obtain ⟨u,hu⟩:=jm (s:=s) (a:=e) ab
   refine ay rfl rfl (aD _ (rfl:_=AV.v (.string _))) (ay rfl rfl (aD _ (rfl:_=AV.v (.int _ _))) (ay rfl rfl (jO _ _ Tryz.underlying9 rfl rfl (by assumption)) ?_))
   refine ay rfl rfl (aK aa al (mF u) rfl rfl) ?_
   refine ay rfl rfl (aD _ (rfl:_=AV.v (.bool _))) (dJ (fun hg25=> ?_) (fun hg25=> ?_))
   ·skip
    have hnx:jP rY s (e+1)=jP rY s (a+1):=(qm hu (by unfold rY;rw [hg25];rfl)).symm.trans het
    refine aX rfl rfl ah ?_
    refine aX rfl rfl ah ?_
    refine aX rfl rfl ah ?_
    refine aX rfl rfl ah ?_
    refine ay rfl rfl (aG _ _ _ rfl (rfl:_=AV.v (.bool _))) (ai (aG _ _ _ rfl (rfl:_=AV.v (.bool _))) (az (hK7 _ ?_)))
    clear hK7;try clear K7
    refine bF rfl rfl (bw (hK6 _ ?_))
    clear hK6;try clear K6
    refine au ?_
    refine aM (σ':=aB 101 [(0,_),(1,_),(4,_),(6,_)] [((4,0),_)] [] []) kp ?_
    refine an (aQ rfl (ai (be _ _ rfl rfl (bq ab)) ?_))
    refine ba rfl (az (⟨e+1,?_,?_,?_⟩))
    ·exact ⟨by omega,by omega,hnx⟩
    ·skip
     refine Le.mkJ [] [] rfl ?_ ?_ trivial trivial ?_
     ·exact ⟨(iV rfl),(iV rfl),(iP rfl),(ci ag),trivial⟩
     ·exact ⟨(cG rfl rfl rfl),trivial⟩
     ·kernel_rfl
    ·omega
   ·skip
    refine ay rfl rfl (aD _ (rfl:_=AV.v (.string _))) (ay rfl rfl (aD _ (rfl:_=AV.v (.int _ _))) (ay rfl rfl (jO _ _ Tryz.underlying9 rfl rfl (by assumption)) ?_))
    refine ay rfl rfl (aK aa al (ld u) rfl rfl) ?_
    refine ay rfl rfl (aG _ _ _ rfl (rfl:_=AV.v (.bool _))) (ai (aG _ _ _ rfl (rfl:_=AV.v (.bool _))) (az (hK7 _ ?_)))
    clear hK7;try clear K7
    refine aU rfl (fun hc31=> ?_) (fun hc31=> ?_)
    ·skip
     have hnx:jP rY s (e+1)=jP rY s (a+1):=(qm hu (by unfold rY;rw [hg25,hc31];rfl)).symm.trans het
     refine bw (hK6 _ ?_)
     clear hK6;try clear K6
     refine au ?_
     refine aM (σ':=aB 101 [(0,_),(1,_),(4,_),(6,_)] [((4,0),_)] [] []) kp ?_
     refine an (aQ rfl (ai (be _ _ rfl rfl (bq ab)) ?_))
     refine ba rfl (az (⟨e+1,?_,?_,?_⟩))
     ·exact ⟨by omega,by omega,hnx⟩
     ·skip
      refine Le.mkJ [] [] rfl ?_ ?_ trivial trivial ?_
      ·exact ⟨(iV rfl),(iV rfl),(iP rfl),(ci ag),trivial⟩
      ·exact ⟨(cG rfl rfl rfl),trivial⟩
      ·kernel_rfl
     ·omega
    ·skip
     have hfin:e=jP rY s (a+1):=(yQ hu (by unfold rY;rw [hg25,hc31];rfl)).symm.trans het
     refine bL (id (hK5 _ ?_))
     clear hK5;try clear K5
     refine aq (aq ?_)
     refine aM (σ':=aB 101 [(0,_),(1,_),(4,_),(6,_)] [((4,0),_)] [] []) kp ?_
     refine an (aQ rfl (aQ rfl (ai (cb _ _ rfl rfl (bq ab)) ?_)))
     refine ai (dy _ _ rfl rfl rfl) (aj (aP rfl (decide_eq_false ab) ?_))
     refine aI (am (aQ rfl (dI rfl (aQ rfl (aQ rfl (ai (jB _ _ _ Tryz.underlying9 rfl _ _ (.lit rfl rfl) (.lit rfl rfl) ab ab rfl) ?_))))))
     refine ai (aA _ aa rfl (by exact (rfl:_=some [_,_,_,_]))) ?_
     refine bO rfl rfl rfl rfl rfl rfl (ba rfl (aj (aC ?_)))
     subst hte;subst hfin
     exact lK (.inr rfl) rfl (.cellA aa rfl rfl rfl) (.tmp (rfl:_=AV.v _)) (Le.out [] [] (.tup rfl lz) rfl rfl rfl trivial trivial)
  ·skip
   have hfin:e=jP rY s (a+1):=(uw ab).symm.trans het
   refine aX rfl rfl ah ?_
   refine aX rfl rfl ah ?_
   refine aX rfl rfl ah ?_
   refine aX rfl rfl ah ?_
   refine aX rfl rfl ah ?_
   refine mP rfl rfl (mP rfl rfl (mP rfl rfl (mP rfl rfl (aX rfl rfl ah ?_))))
   refine ai (aG _ _ _ rfl (rfl:_=AV.v (.bool _))) (az (hK7 _ ?_))
   clear hK7;try clear K7
   refine aP rfl rfl (bL (id (hK5 _ ?_)))
   clear hK5;try clear K5
   refine aq (aq ?_)
   refine aM (σ':=aB 101 [(0,_),(1,_),(4,_),(6,_)] [((4,0),_)] [] []) kp ?_
   refine an (aQ rfl (aQ rfl (ai (cb _ _ rfl rfl (bq ab)) ?_)))
   refine ai (dy _ _ rfl rfl rfl) (aj (aP rfl (decide_eq_false ab) ?_))
   refine aI (am (aQ rfl (dI rfl (aQ rfl (aQ rfl (ai (jB _ _ _ Tryz.underlying9 rfl _ _ (.lit rfl rfl) (.lit rfl rfl) ab ab rfl) ?_))))))
   refine ai (aA _ aa rfl (by exact (rfl:_=some [_,_,_,_]))) ?_
   refine bO rfl rfl rfl rfl rfl rfl (ba rfl (aj (aC ?_)))
   subst hte;subst hfin
   exact lK (.inr rfl) rfl (.cellA aa rfl rfl rfl) (.tmp (rfl:_=AV.v _)) (Le.out [] [] (.tup rfl lz) rfl rfl rfl trivial trivial)
 ·skip
  have hlb:=hc15
  refine aI (aq (am (dI rfl (aQ rfl (ai (jO _ _ Tryz.underlying9 rfl rfl (by assumption)) ?_)))))
  refine ai (aK aa al (ld b) rfl rfl) ?_
  refine aj (aU rfl (fun hc48=> ?_) (fun hc48=> ?_))
  ·skip
   obtain ⟨htd,htv,hte⟩:=rQ hb hlb hc48 ht
   refine aF fun K16 hK16=> ?_
   refine au ?_
   refine bD (α:=Nat) (fun e=> a+1≤e∧e≤s.length∧jP fI s e=jP fI s (a+1)) 101 [(0,_),(1,_),(4,_)] [((4,0),_)] (fun e=> [(6, .v (.int .i64 (e:Int)))]) (fun e=> []) [] [] (fun e=> s.length - e) (a+1) ?_ (by
    refine Le.mkJ [] [] rfl ?_ ?_ trivial trivial ?_
    ·exact ⟨(iV rfl),(iV rfl),(iP rfl),(ci ag),trivial⟩
    ·exact ⟨(cG rfl rfl rfl),trivial⟩
    ·kernel_rfl) ?_
   ·exact ⟨Nat.le_refl _,by omega,rfl⟩
   intro e he
   obtain ⟨he1,he2,het⟩:=he
   refine aF fun K17 hK17=> ?_
   refine aF fun K18 hK18=> ?_
   refine an (aQ rfl (dI rfl (ai (gp _ Tryz.underlying9 rfl) (ai (bp _ _ rfl rfl rfl) (cP rfl (dJ (fun hg53=> ?_) (fun hg53=> ?_)))))))
   ·skip
    obtain ⟨u,hu⟩:=jm (s:=s) (a:=e) ab
    refine ay rfl rfl (aD _ (rfl:_=AV.v (.string _))) (ay rfl rfl (aD _ (rfl:_=AV.v (.int _ _))) (ay rfl rfl (jO _ _ Tryz.underlying9 rfl rfl (by assumption)) ?_))
    refine ay rfl rfl (aK aa al (ld u) rfl rfl) ?_
    refine ai (aG _ _ _ rfl (rfl:_=AV.v (.bool _))) (az (hK18 _ ?_))
    clear hK18;try clear K18
    refine aU rfl (fun hc58=> ?_) (fun hc58=> ?_)
    ·skip
     have hnx:jP fI s (e+1)=jP fI s (a+1):=(qm hu hc58).symm.trans het
     refine bw (hK17 _ ?_)
     clear hK17;try clear K17
     refine au (an (aQ rfl (ai (be _ _ rfl rfl (bq ab)) ?_)))
     refine ba rfl (az (⟨e+1,?_,?_,?_⟩))
     ·exact ⟨by omega,by omega,hnx⟩
     ·skip
      refine Le.mkJ [] [] rfl ?_ ?_ trivial trivial ?_
      ·exact ⟨(iV rfl),(iV rfl),(iP rfl),(ci ag),trivial⟩
      ·exact ⟨(cG rfl rfl rfl),trivial⟩
      ·kernel_rfl
     ·omega
    ·skip
     have hfin:e=jP fI s (a+1):=(yQ hu hc58).symm.trans het
     refine bL (id (hK16 _ ?_))
     clear hK16;try clear K16
     refine am (dI rfl (aQ rfl (aQ rfl (ai (jB _ _ _ Tryz.underlying9 rfl _ _ (.lit rfl rfl) (.lit rfl rfl) ab ab rfl) ?_))))
     refine ai (aK aa al (oo ((s.drop a).take (e - a)) (by simp;omega) (by rw [hfin];exact htd) (by rw [hfin];exact htv)) rfl rfl) ?_
     refine ba rfl (aj (aq (aq ?_)))
     refine aM (σ':=aB 101 [(0,_),(1,_),(4,_),(6,_),(7,_)] [((4,0),_)] [] []) kp ?_
     refine an (aQ rfl (ai (bp _ _ rfl rfl rfl) (aj (aP rfl (decide_eq_false ab) ?_))))
     refine aI (am (aQ rfl (dI rfl (aQ rfl (aQ rfl (ai (jB _ _ _ Tryz.underlying9 rfl _ _ (.lit rfl rfl) (.lit rfl rfl) ab ab rfl) ?_))))))
     refine aQ rfl (ai (aA _ aa rfl (by exact (rfl:_=some [_,_,_,_]))) ?_)
     refine bO rfl rfl rfl rfl rfl rfl (ba rfl (aj (aC ?_)))
     subst hte;subst hfin
     exact lK (.inr rfl) rfl (.cellA aa rfl rfl rfl) (.tmp (rfl:_=AV.v _)) (Le.out [] [] (.tup rfl lz) rfl rfl rfl trivial trivial)
   ·skip
    have hfin:e=jP fI s (a+1):=(uw ab).symm.trans het
    refine aX rfl rfl ah ?_
    refine aX rfl rfl ah ?_
    refine aX rfl rfl ah ?_
    refine aX rfl rfl ah ?_
    refine ai (aG _ _ _ rfl (rfl:_=AV.v (.bool _))) (az (hK18 _ ?_))
    clear hK18;try clear K18
    refine aP rfl rfl (bL (id (hK16 _ ?_)))
    clear hK16;try clear K16
    refine am (dI rfl (aQ rfl (aQ rfl (ai (jB _ _ _ Tryz.underlying9 rfl _ _ (.lit rfl rfl) (.lit rfl rfl) ab ab rfl) ?_))))
    refine ai (aK aa al (oo ((s.drop a).take (e - a)) (by simp;omega) (by rw [hfin];exact htd) (by rw [hfin];exact htv)) rfl rfl) ?_
    refine ba rfl (aj (aq (aq ?_)))
    refine aM (σ':=aB 101 [(0,_),(1,_),(4,_),(6,_),(7,_)] [((4,0),_)] [] []) kp ?_
    refine an (aQ rfl (ai (bp _ _ rfl rfl rfl) (aj (aP rfl (decide_eq_false ab) ?_))))
    refine aI (am (aQ rfl (dI rfl (aQ rfl (aQ rfl (ai (jB _ _ _ Tryz.underlying9 rfl _ _ (.lit rfl rfl) (.lit rfl rfl) ab ab rfl) ?_))))))
    refine aQ rfl (ai (aA _ aa rfl (by exact (rfl:_=some [_,_,_,_]))) ?_)
    refine bO rfl rfl rfl rfl rfl rfl (ba rfl (aj (aC ?_)))
    subst hte;subst hfin
    exact lK (.inr rfl) rfl (.cellA aa rfl rfl rfl) (.tmp (rfl:_=AV.v _)) (Le.out [] [] (.tup rfl lz) rfl rfl rfl trivial trivial)
  ·skip
   have hsy:=rN hb hlb hc48 ht
   refine aI (am (dI rfl (aQ rfl (aQ rfl (ai (be _ _ rfl rfl (bq ab)) ?_)))))
   refine dI rfl (ai (gp _ Tryz.underlying9 rfl) (ai (oH _ _ rfl rfl rfl) (ai (jB _ _ _ Tryz.underlying9 rfl a (min (a+2) s.length) (.lit rfl rfl) (.lit rfl ab) ab ab (uB ha)) ?_)))
   refine iW rfl (aj (aq (aq ?_)))
   refine aM (σ':=aB 101 [(0,_),(1,_),(4,_),(6,_),(8,_)] [((4,0),_)] [] []) kp ?_
   refine an (ai (aV _ _ aa rfl ag (by (simp <;> rfl)) ah rfl) ?_)
   refine dI rfl (ai (aK aa al (ow Aq 6 rfl ab ((s.drop a).take 2)) rfl rfl) ?_)
   refine aj (aU rfl (fun hc86=> ?_) (fun hc86=> ?_))
   ·skip
    have hte:t=⟨3,a,(s.drop a).take 2,0⟩:=hsy.elim (·.2) fun h=> absurd hc86 h.1
    refine am (aQ rfl (dI rfl (ai (aA _ aa rfl (by exact (rfl:_=some [_,_,_,_]))) ?_)))
    refine bO rfl rfl rfl rfl rfl rfl (ba rfl (aj (aC ?_)))
    subst hte
    exact lK (.inr rfl) rfl (.cellA aa rfl rfl rfl) (.tmp (rfl:_=AV.v _)) (Le.out [] [] (.tup rfl lz) rfl rfl rfl trivial trivial)
   ·skip
    obtain ⟨_,hs1,hte⟩:=hsy.resolve_left fun h=> hc86 h.1
    refine aI (am (dI rfl (aQ rfl (aQ rfl (ai (jB _ _ _ Tryz.underlying9 rfl a (a+1) (.lit rfl rfl) (.lit rfl rfl) ab ab (by rw [Nat.add_sub_cancel_left])) ?_)))))
    refine iW rfl (aj (aq (am (ai (aV _ _ aa rfl ag (by (simp <;> rfl)) ah rfl) ?_))))
    refine dI rfl (ai (aK aa al (ow CI 16 rfl ab ((s.drop a).take 1)) rfl rfl) ?_)
    refine aj (bF rfl (decide_eq_true hs1) ?_)
    refine am (aQ rfl (dI rfl (ai (aA _ aa rfl (by exact (rfl:_=some [_,_,_,_]))) ?_)))
    refine bO rfl rfl rfl rfl rfl rfl (ba rfl (aj (aC ?_)))
    subst hte
    exact lK (.inr rfl) rfl (.cellA aa rfl rfl rfl) (.tmp (rfl:_=AV.v _)) (Le.out [] [] (.tup rfl lz) rfl rfl rfl trivial trivial)
theorem kW {f:Nat} {s:Tx} {a:Nat} {l:List Tk} (h:lH (f+1) s a=some l):(s.length≤a∧l=[⟨0,s.length,[],0⟩])∨(a < s.length∧ ∃ t m,oT (s.drop a) a=some t∧lH f s (jw s (a+t.t.length) false)=some m∧l=t::m):=by
 unfold lH at h
 split at h
 ·exact .inl ⟨by assumption,(Option.some.inj h).symm⟩
 ·split at h
  ·cases h
  ·split at h
   ·cases h
   ·rename_i t ht _ m hm
    exact .inr ⟨by omega,t,m,ht,hm,(Option.some.inj h).symm⟩
theorem re {s:Tx} {a:Nat} {t:Tk} (ha:a < s.length) (h:oT (s.drop a) a=some t):0 < t.t.length∧a+t.t.length≤s.length:=by
 obtain ⟨b,hb⟩:=jm ha
 have key: ∀ k,0 < k→0 < ((s.drop a).take k).length∧a+((s.drop a).take k).length≤s.length:=fun k hk=> by rw [List.length_take,List.length_drop];omega
 cases h1:lP b with
 | true=> obtain ⟨_,rfl⟩:=pG hb h1 h;exact key _ (by have:=qB (p:=rY) (s:=s) (a:=a+1) ab;omega)
 | false=>
  cases h2:fI b with
  | true=> obtain ⟨_,_,rfl⟩:=rQ hb h1 h2 h;exact key _ (by have:=qB (p:=fI) (s:=s) (a:=a+1) ab;omega)
  | false=>
   rcases rN hb h1 h2 h with ⟨_,rfl⟩ | ⟨_,_,rfl⟩
   ·exact key _ ab
   ·exact key _ ab
def Dx (s:Tx) (l:List Tk) (z:Nat×List Tk):Prop:=z.1≤s.length∧z.2.length≤z.1∧ ∃ f m,lH f s z.1=some m∧l=z.2++m
theorem rB (s:Tx) (h1:s.length≤100000) (l:List Tk) (hl:AY s=some l):
  Spec Tryz.prog 159 (bj [.v (bt s)] []) (aW (.tup [.sl l.length (qu l), .v (.int .i64 0), .v (.int .i64 0)]) []):=by
 have hs0:=sU (s:=s) (a:=0) (Nat.zero_le _) false
 refine Spec.ofN Tryz.func159 rfl Tryz.ntmps159 rfl ?_
 refine am (ai (bH _ (rfl:_=AV.v (.slice _ _ _))) (ba rfl (ba rfl (aj (am (ai (nJ (5,0) _ 225 4 rfl rfl) ?_))))))
 refine aj (am (dI rfl (ai (aK aa al (pL s 0 h1 (Nat.zero_le _)) rfl rfl) ?_)))
 refine ba rfl (aj (aF fun K4 hK4=> ?_))
 refine au ?_
 refine bD (α:=Nat×List Tk) (fun z=> Dx s l z) 42 [(0,_)] [] (fun z=> [(6, .v (.int .i64 (z.1:Int))),(5, .ref (5,0) 0 z.2.length)]) (fun z=> [((5,0), .row 225 4 (qu z.2))]) [] [] (fun z=> s.length - z.1) (jw s 0 false,[]) ?_ (by
  refine Le.mkJ [] [] rfl ?_ ?_ trivial trivial ?_
  ·exact ⟨(iV rfl),(ci ag),(dj rfl ag),trivial⟩
  ·exact ⟨(gz rfl rfl rfl ag),trivial⟩
  ·kernel_rfl) ?_
 ·exact ⟨hs0.2,Nat.zero_le _,s.length+1,l,by rw [← hl];unfold AY jw;rw [List.drop_zero,Nat.zero_add],rfl⟩
 intro z hz
 obtain ⟨hz1,hz2,f,m,hf,hlm⟩:=hz
 obtain ⟨f,rfl⟩: ∃ g,f=g+1:=by cases f with | zero=> (simp [lH] at hf) | succ g=> exact ⟨g,rfl⟩
 refine aF fun K5 hK5=> ?_
 refine am (aQ rfl (dI rfl (ai (gp _ Tryz.underlying9 rfl) (ai (bp _ _ rfl rfl rfl) (aj (aU rfl (fun hc14=> ?_) (fun hc14=> ?_)))))))
 ·skip
  obtain ⟨_,t,m',ht,hm',hm⟩:=(kW hf).resolve_left fun h=> by omega
  obtain ⟨htl,hta⟩:=re ab ht
  have hsk:=sU (s:=s) (a:=z.1+t.t.length) hta false
  have hlen:(z.2++[t]).length=z.2.length+1:=by simp
  refine bw (hK5 _ ?_)
  clear hK5;try clear K5
  refine au (am (dI rfl (aQ rfl (ai (aK aa al (tB s z.1 h1 ab t ht) rfl rfl) ?_))))
  refine ai (aD _ (rfl:_=AV.tup _)) (ai (db _ rfl (rfl:_=some (AV.agg _))) (ai (db _ rfl (rfl:_=some (AV.v (.int _ _)))) (ai (ax (7,0) aa rfl rfl) (bO rfl rfl rfl rfl rfl rfl (ba rfl (aj (aq (am (aQ rfl (ai (bX (r:=false) _ _ rfl rfl rfl) ?_))))))))))
  refine aj (aP rfl rfl (aI (aq ?_)))
  refine aM (σ':=aB 42 [(0,_),(5,_),(6,_),(7,_)] [((5,0),_),((7,0),_)] [] []) kp ?_
  refine an (gF rfl (ai (aR _ aa rfl rfl rfl rfl) (ai (aV _ _ aa rfl ag (by (simp <;> rfl)) ah rfl) ?_)))
  refine ai (dh (28,0) _ _ aa rfl rfl (bv _).symm (.sl rfl) ab rfl (rF _ _) hlen.symm) ?_
  refine eX rfl (aj (an (dI rfl (aQ rfl (bE rfl rfl rfl (ai (aN _ aa rfl rfl (rfl:_=some (AV.v (.string _)))) (ai (gp _ Tryz.underlying9 rfl) (ai (be _ _ rfl rfl (bq ab)) ?_))))))))
  refine ai (aK aa al (pL s (z.1+t.t.length) h1 hta) rfl rfl) ?_
  refine ba rfl (az (⟨(jw s (z.1+t.t.length) false,z.2++[t]),?_,?_,?_⟩))
  ·exact ⟨hsk.2,by simp only;omega,f,m',hm',by rw [hlm,hm];simp⟩
  ·skip
   refine Le.mkJ [((5,0),(28,0))] [] rfl ?_ ?_ trivial trivial ?_
   ·exact ⟨(by repeat' (exact Lv.v)),(ci ag),(dj rfl ag),trivial⟩
   ·exact ⟨(gz rfl rfl rfl ag),trivial⟩
   ·kernel_rfl
  ·simp only;omega
 ·skip
  obtain ⟨_,hm⟩:=(kW hf).resolve_right fun h=> by omega
  have hlen:(z.2++[(⟨0,s.length,[],0⟩:Tk)]).length=z.2.length+1:=by simp
  rw [hm] at hlm;subst hlm
  refine bL (id (hK4 _ ?_))
  clear hK4;try clear K4
  refine am (gF rfl (dI rfl (ai (gp _ Tryz.underlying9 rfl) (ai (aA _ aa rfl (by exact (rfl:_=some [_,_,_,_]))) ?_))))
  refine ai (aV _ _ aa rfl ag (by (simp <;> rfl)) ah rfl) ?_
  refine ai (dh (41,0) _ _ aa rfl rfl (bv _).symm (.sl rfl) ab rfl (rF _ ⟨0,s.length,[],0⟩) hlen.symm) ?_
  exact eX rfl (ba rfl (ba rfl (aj (aC (AL (.inr rfl) rfl (.tmp (rfl:_=AV.ref _ _ _)) (.tmp (rfl:_=AV.v _)) (.tmp (rfl:_=AV.v _)) (Le.out [] [(41,0)] (.tup rfl (aH (iq rfl rfl (bv _).symm rfl) lz)) rfl rfl rfl tr trivial))))))

theorem cB (l:List Tx) (n:Nat) (hn:l.length=n) (h1:n≤1000) (t:Tx):Spec Tryz.prog 199 (bj [.sl n (dS l), .v (bt t)] []) (aW (.v (.bool (decide (t∈l)))) []):=by
 refine Spec.ofN Tryz.func199 rfl Tryz.ntmps199 rfl ?_
 refine am (ct rfl (aj (aF fun K2 hK2=> ?_)))
 refine am (ba rfl (aj (au ?_)))
 refine bD (α:=Nat) (fun k=> k≤n∧t∉l.take k) 18 [(0,_),(1,_)] [] (fun k=> [(5, .v (.int .i64 (k:Int)))]) (fun k=> []) [] [] (fun k=> n - k) 0 ?_ (by
  refine Le.mkJ [] [] rfl ?_ ?_ trivial trivial ?_
  ·exact ⟨(iS rfl),(iV rfl),(ci ag),trivial⟩
  ·exact trivial
  ·kernel_rfl) ?_
 ·exact ⟨Nat.zero_le _,by simp⟩
 intro k hk
 obtain ⟨hk,hnt⟩:=hk
 refine aF fun K4 hK4=> ?_
 refine am (aQ rfl (eJ rfl (ai (bB _ aa rfl) (ai (bp _ _ rfl rfl rfl) (aj (aU rfl (fun hc9=> ?_) (fun hc9=> ?_)))))))
 ·skip
  refine bw (hK4 _ ?_)
  clear hK4;try clear K4
  refine aq (au (am (eJ rfl (aQ rfl (ai (bf _ _ aa rfl rfl _ rfl ab (by (simp only [aZ,bm,bl,bA,bv];omega)) (by exact Nat.mul_one _)) ?_)))))
  refine ai (bC _ aa rfl (by exact fx _ _ ab) rfl) ?_
  refine dI rfl (ai (aT _ _ Tryz.underlying9 rfl rfl rfl) (aj (aU rfl (fun hc17=> ?_) (fun hc17=> ?_))))
  ·skip
   refine am (ct rfl (aj (aC (aY (.inr rfl) rfl (.tmp (rfl:_=AV.v (.bool _))) (Le.out [] [] (hZ ?_) rfl rfl rfl trivial trivial)))))
   exact decide_eq_true (hc17 ▸ iz ab)
  ·skip
   refine cf (an (aQ rfl (ai (be _ _ rfl rfl (bq ab)) ?_)))
   refine ba rfl (az (⟨k+1,?_,?_,?_⟩))
   ·exact ⟨by omega,jg hnt ab hc17⟩
   ·skip
    refine Le.mkJ [] [] rfl ?_ ?_ trivial trivial ?_
    ·exact ⟨(iS rfl),(iV rfl),(ci ag),trivial⟩
    ·exact trivial
    ·kernel_rfl
   ·omega
 ·skip
  have hall:t∉l:=by rwa [List.take_of_length_le ab] at hnt
  refine bL (id (hK2 _ ?_))
  clear hK2;try clear K2
  refine am (ct rfl (aj (aC (aY (.inr rfl) rfl (.tmp (rfl:_=AV.v (.bool _))) (Le.out [] [] (hZ ?_) rfl rfl rfl trivial trivial)))))
  exact decide_eq_false hall
theorem ez:Spec Tryz.prog 205 (bj [] []) (aW (.sl 9 (dS bltT)) []):=by
 refine Spec.ofN Tryz.func205 rfl Tryz.ntmps205 rfl ?_
 refine am (ai (bH _ (rfl:_=AV.v (.slice _ _ _))) (aj (am (ai (aV _ _ aa rfl ag (by (simp <;> rfl)) ah rfl) ?_))))
 exact kD rfl (aj (aC (aY (.inr rfl) rfl (.tmp (rfl:_=AV.sl _ _)) (Le.out [] [] .sl rfl rfl rfl trivial trivial))))
theorem kC (t:Tx):Spec Tryz.prog 225 (bj [.v (bt t)] []) (aW (.v (.bool (tg t))) []):=by
 refine Spec.ofN Tryz.func225 rfl Tryz.ntmps225 rfl ?_
 refine am (ct rfl (aj (am (ai (aK aa (by repeat' (exact dM)) (ez) rfl rfl) ?_))))
 refine dI rfl (ai (aK aa al (cB bltT 9 rfl ab t) rfl rfl) ?_)
 refine cP rfl (dJ (fun hg6=> ?_) (fun hg6=> ?_))
 ·skip
  refine aX rfl rfl ah ?_
  refine aX rfl rfl ah ?_
  refine aX rfl rfl ah ?_
  refine ai (aG _ _ _ rfl (rfl:_=AV.v (.bool _))) (ct rfl (aj (aC (aY (.inr rfl) rfl (.tmp (rfl:_=AV.v (.bool _))) (Le.out [] [] (hZ ?_) rfl rfl rfl trivial trivial)))))
  unfold tg
  (rw [decide_eq_true hg6];rfl)
 ·skip
  refine ay rfl rfl (aV _ _ aa rfl ag (by (simp <;> rfl)) ah rfl) ?_
  refine ay rfl rfl (aD _ (rfl:_=AV.v (.string _))) (ay rfl rfl (aK aa al (cB Pj 19 rfl ab t) rfl rfl) ?_)
  refine ai (aG _ _ _ rfl (rfl:_=AV.v (.bool _))) (ct rfl (aj (aC (aY (.inr rfl) rfl (.tmp (rfl:_=AV.v (.bool _))) (Le.out [] [] (hZ ?_) rfl rfl rfl trivial trivial)))))
  unfold tg
  (rw [decide_eq_false hg6];rfl)
theorem dL {T:List Tk} {i:Nat} (h:i < T.length):bP T i < T.length:=by unfold bP;split <;> omega
abbrev dE (T:List Tk) (i:Nat) (N:List Tx):List (aE×Cells):=[((0,9), .box 222 [.sl T.length (qu T), .v (.int .i64 (i:Int)), .v (.int .i64 0), .v (.int .i64 0), .sl N.length (dS N)])]
theorem bT (T:List Tk) (i:Nat) (N:List Tx) (hi:i < T.length):
  Spec Tryz.prog 160 (bc [.ptr (0,9) 0] (dE T i N)) (bg (.v (bt (cW T i).t)) (dE T i N) [(0,9)] [(0,9)]):=by
 refine Spec.ofNI Tryz.func160 rfl Tryz.ntmps160 rfl ?_
 refine am (iW rfl (aj (aq (bG 12 [3,4,5,6,7,8,9,10,11,12,13,2] [] ae ae rfl (aL rfl) (rfl:_=[_,_,_,_,_,_,_,_,_,_,_,_]) (rfl:_=[]) ?_))))
 refine ap (_,[]) (fun τ=> aD _ (rfl:_=AV.ptr _ _)) ?_
 refine eH rfl ?_
 refine ap (_,[]) (fun τ=> aS _ rfl rfl) ?_
 refine eG rfl ?_
 refine ap (_,[]) (fun τ=> aJ _ aa rfl rfl rfl) ?_
 refine eI rfl ?_
 refine ap (_,[]) (fun τ=> aN _ aa rfl rfl (rfl:_=some (AV.sl _ _))) ?_
 refine eQ rfl ?_
 refine ap (_,[]) (fun τ=> aD _ (rfl:_=AV.ptr _ _)) ?_
 refine fb rfl ?_
 refine ap (_,[]) (fun τ=> aS _ rfl rfl) ?_
 refine fB rfl ?_
 refine ap (_,[]) (fun τ=> aJ _ aa rfl rfl rfl) ?_
 refine gD rfl ?_
 refine ap (_,[]) (fun τ=> aN _ aa rfl rfl (rfl:_=some (AV.v (.int _ _)))) ?_
 refine jL rfl ?_
 refine ap (_,[]) (fun τ=> bf _ _ aa rfl rfl _ rfl ab (by (simp only [aZ,bm,bl,bA,bv];omega)) ag) ?_
 refine jF rfl ?_
 refine ap (_,[]) (fun τ=> cO _ aa rfl rfl) ?_
 refine fV rfl ?_
 refine ap (_,[]) (fun τ=> bC _ aa rfl (by exact lD _ _ ab) rfl) ?_
 refine gB rfl ?_
 refine ap (_,[]) (fun τ=> bH _ (rfl:_=AV.v (.string _))) ?_
 refine kz rfl (bh ⟨rfl,?_⟩)
 exact aj (aC (aY (.inr rfl) rfl (.tmp (rfl:_=AV.v _)) (Le.outI [] [] .v rfl rfl rfl trivial ob tr rfl)))
theorem dC (T:List Tk) (i:Nat) (N:List Tx) (hi:i < T.length):
  Spec Tryz.prog 197 (bc [.ptr (0,9) 0] (dE T i N)) (bg (.v (.bool (dX T i))) (dE T i N) [(0,9)] [(0,9)]):=by
 refine Spec.ofNI Tryz.func197 rfl Tryz.ntmps197 rfl ?_
 refine am (ct rfl (aj (aq (bG 28 [3,4,5,6,7,8,9,10,11,12,13,14,15,16,17,18,19,20,21,22,23,24,25,26,27,28,29,2] [] ae ae rfl (aL rfl) (rfl:_=[_,_,_,_,_,_,_,_,_,_,_,_,_,_,_,_,_,_,_,_,_,_,_,_,_,_,_,_]) (rfl:_=[]) ?_))))
 refine ap (_,[]) (fun τ=> aD _ (rfl:_=AV.ptr _ _)) ?_
 refine eH rfl ?_
 refine ap (_,[]) (fun τ=> aS _ rfl rfl) ?_
 refine eG rfl ?_
 refine ap (_,[]) (fun τ=> aJ _ aa rfl rfl rfl) ?_
 refine eI rfl ?_
 refine ap (_,[]) (fun τ=> aN _ aa rfl rfl (rfl:_=some (AV.sl _ _))) ?_
 refine eQ rfl ?_
 refine ap (_,[]) (fun τ=> aD _ (rfl:_=AV.ptr _ _)) ?_
 refine fb rfl ?_
 refine ap (_,[]) (fun τ=> aS _ rfl rfl) ?_
 refine fB rfl ?_
 refine ap (_,[]) (fun τ=> aJ _ aa rfl rfl rfl) ?_
 refine gD rfl ?_
 refine ap (_,[]) (fun τ=> aN _ aa rfl rfl (rfl:_=some (AV.v (.int _ _)))) ?_
 refine jL rfl ?_
 refine ap (_,[]) (fun τ=> bf _ _ aa rfl rfl _ rfl ab (by (simp only [aZ,bm,bl,bA,bv];omega)) ag) ?_
 refine jF rfl ?_
 refine ap (_,[]) (fun τ=> cO _ aa rfl rfl) ?_
 refine fV rfl ?_
 refine ap (_,[]) (fun τ=> bC _ aa rfl (by exact nH _ _ ab) rfl) ?_
 refine gB rfl ?_
 refine ap (_,[]) (fun τ=> bR _ _ rfl rfl rfl) ?_
 refine kz rfl ?_
 refine ap (_,[]) (fun τ=> aD _ (rfl:_=AV.v (.bool _))) ?_
 refine mn (fun hg15=> ?_) (fun hg15=> ?_)
 ·skip
  have hr:dX T i= !tg (cW T i).t:=by unfold dX;rw [decide_eq_true ab];rfl
  refine lf rfl ?_
  refine bV (_,[]) rfl (fun τ=> rfl) (fun τ=> aD _ (rfl:_=AV.ptr _ _)) ?_
  refine oB rfl ?_
  refine bV (_,[]) rfl (fun τ=> rfl) (fun τ=> aS _ rfl rfl) ?_
  refine uM rfl ?_
  refine bV (_,[]) rfl (fun τ=> rfl) (fun τ=> aJ _ aa rfl rfl rfl) ?_
  refine we rfl ?_
  refine bV (_,[]) rfl (fun τ=> rfl) (fun τ=> aN _ aa rfl rfl (rfl:_=some (AV.sl _ _))) ?_
  refine xt rfl ?_
  refine bV (_,[]) rfl (fun τ=> rfl) (fun τ=> aD _ (rfl:_=AV.ptr _ _)) ?_
  refine yo rfl ?_
  refine bV (_,[]) rfl (fun τ=> rfl) (fun τ=> aS _ rfl rfl) ?_
  refine xE rfl ?_
  refine bV (_,[]) rfl (fun τ=> rfl) (fun τ=> aJ _ aa rfl rfl rfl) ?_
  refine zK rfl ?_
  refine bV (_,[]) rfl (fun τ=> rfl) (fun τ=> aN _ aa rfl rfl (rfl:_=some (AV.v (.int _ _)))) ?_
  refine Bd rfl ?_
  refine bV (_,[]) rfl (fun τ=> rfl) (fun τ=> bf _ _ aa rfl rfl _ rfl ab (by (simp only [aZ,bm,bl,bA,bv];omega)) ag) ?_
  refine AT rfl ?_
  refine bV (_,[]) rfl (fun τ=> rfl) (fun τ=> cO _ aa rfl rfl) ?_
  refine AN rfl ?_
  refine bV (_,[]) rfl (fun τ=> rfl) (fun τ=> bC _ aa rfl (by exact lD _ _ ab) rfl) ?_
  refine Bu rfl ?_
  refine bV (_,[]) rfl (fun τ=> rfl) (fun τ=> (aK aa al (kC (cW T i).t) rfl rfl)) ?_
  refine zU rfl ?_
  refine bV (_,[]) rfl (fun τ=> rfl) (fun τ=> cZ _ rfl rfl) ?_
  refine zQ rfl ?_
  refine ap (_,[]) (fun τ=> aG _ _ _ rfl (rfl:_=AV.v (.bool _))) ?_
  refine AR rfl ?_
  refine ap (_,[]) (fun τ=> bH _ (rfl:_=AV.v (.bool _))) ?_
  refine BB rfl (bh ⟨rfl,?_⟩)
  exact aj (aC (aY (.inr rfl) rfl (.tmp (rfl:_=AV.v (.bool _))) (Le.outI [] [] (hZ hr) rfl rfl rfl trivial ob tr rfl)))
 ·skip
  have hr:dX T i=false:=by unfold dX;rw [decide_eq_false ab];rfl
  refine lf rfl ?_
  refine cL rfl (fun τ=> rfl) ah ?_
  refine oB rfl ?_
  refine cL rfl (fun τ=> rfl) ah ?_
  refine uM rfl ?_
  refine cL rfl (fun τ=> rfl) ah ?_
  refine we rfl ?_
  refine cL rfl (fun τ=> rfl) ah ?_
  refine xt rfl ?_
  refine cL rfl (fun τ=> rfl) ah ?_
  refine yo rfl ?_
  refine cL rfl (fun τ=> rfl) ah ?_
  refine xE rfl ?_
  refine cL rfl (fun τ=> rfl) ah ?_
  refine zK rfl ?_
  refine cL rfl (fun τ=> rfl) ah ?_
  refine Bd rfl ?_
  refine cL rfl (fun τ=> rfl) ah ?_
  refine AT rfl ?_
  refine cL rfl (fun τ=> rfl) ah ?_
  refine AN rfl ?_
  refine cL rfl (fun τ=> rfl) ah ?_
  refine Bu rfl ?_
  refine cL rfl (fun τ=> rfl) ah ?_
  refine zU rfl ?_
  refine cL rfl (fun τ=> rfl) ah ?_
  refine zQ rfl ?_
  refine ap (_,[]) (fun τ=> aG _ _ _ rfl (rfl:_=AV.v (.bool _))) ?_
  refine AR rfl ?_
  refine ap (_,[]) (fun τ=> bH _ (rfl:_=AV.v (.bool _))) ?_
  refine BB rfl (bh ⟨rfl,?_⟩)
  exact aj (aC (aY (.inr rfl) rfl (.tmp (rfl:_=AV.v (.bool _))) (Le.outI [] [] (hZ hr) rfl rfl rfl trivial ob tr rfl)))
theorem cm (T:List Tk) (i:Nat) (N:List Tx) (hi:i < T.length) (hT:T.length≤100000):
  Spec Tryz.prog 196 (bc [.ptr (0,9) 0] (dE T i N)) (bg (.tup []) (dE T (bP T i) N) [(0,9)] [(0,9)]):=by
 refine Spec.ofNI Tryz.func196 rfl Tryz.ntmps196 rfl ?_
 refine aq (bG 11 [2,3,4,5,6,7,8,9,10,11,12] [] ae ae rfl (aL rfl) (rfl:_=[_,_,_,_,_,_,_,_,_,_,_]) (rfl:_=[]) ?_)
 refine ap (_,[]) (fun τ=> aD _ (rfl:_=AV.ptr _ _)) ?_
 refine eH rfl ?_
 refine ap (_,[]) (fun τ=> aS _ rfl rfl) ?_
 refine eG rfl ?_
 refine ap (_,[]) (fun τ=> aJ _ aa rfl rfl rfl) ?_
 refine eI rfl ?_
 refine ap (_,[]) (fun τ=> aN _ aa rfl rfl (rfl:_=some (AV.v (.int _ _)))) ?_
 refine eQ rfl ?_
 refine ap (_,[]) (fun τ=> be _ _ rfl rfl (bq ab)) ?_
 refine fb rfl ?_
 refine ap (_,[]) (fun τ=> aD _ (rfl:_=AV.ptr _ _)) ?_
 refine fB rfl ?_
 refine ap (_,[]) (fun τ=> aS _ rfl rfl) ?_
 refine gD rfl ?_
 refine ap (_,[]) (fun τ=> aJ _ aa rfl rfl rfl) ?_
 refine jL rfl ?_
 refine ap (_,[]) (fun τ=> aN _ aa rfl rfl (rfl:_=some (AV.sl _ _))) ?_
 refine jF rfl ?_
 refine ap (_,[]) (fun τ=> bB _ aa rfl) ?_
 refine fV rfl ?_
 refine ap (_,[]) (fun τ=> bp _ _ rfl rfl rfl) ?_
 refine gB rfl (bh ⟨rfl,?_⟩)
 refine aj (aU rfl (fun hc12=> ?_) (fun hc12=> ?_))
 ·skip
  have ht:bP T i=i+1:=by unfold bP;rw [if_pos ab]
  refine an (bi rfl (ai (aS _ rfl rfl) (bE rfl rfl rfl (cH rfl rfl rfl (ai (be _ _ rfl rfl (bq ab)) ?_)))))
  exact ai (aS _ rfl rfl) (bE rfl rfl rfl (bO rfl rfl rfl rfl rfl rfl (az (eR (.inl rfl) rfl (Le.outI [] [] (.tup rfl bu) rfl rfl rfl trivial ⟨⟨rfl,⟨_,rfl, .box rfl (aH .sl (aH (ci (by rw [ht] <;> omega)) lz))⟩,rfl⟩,trivial⟩ tr rfl)))))
 ·skip
  have ht:bP T i=i:=by unfold bP;rw [if_neg ab]
  exact bw (eR (.inl rfl) rfl (Le.outI [] [] (.tup rfl bu) rfl rfl rfl trivial ⟨⟨rfl,⟨_,rfl, .box rfl (aH .sl (aH (ci (by rw [ht] <;> omega)) lz))⟩,rfl⟩,trivial⟩ tr rfl))
theorem eZ (T:List Tk) (i j:Nat) (N:List Tx) (s:Tx) (hi:i < T.length) (hT:T.length≤100000) (h:fS T s i=some j):
  Spec Tryz.prog 162 (bc [.ptr (0,9) 0, .v (bt s)] (dE T i N)) (bg (.tup []) (dE T j N) [(0,9)] [(0,9)]):=by
 have ⟨hs,hj⟩:(cW T i).t=s∧bP T i=j:=by
  unfold fS at h
  split at h
  ·exact ⟨by assumption,Option.some.inj h⟩
  ·cases h
 subst hs
 subst hj
 refine Spec.ofNI Tryz.func162 rfl Tryz.ntmps162 rfl ?_
 refine aq (am (bi rfl (ai (aS _ rfl rfl) (bE rfl rfl rfl (cH rfl rfl rfl (iX rfl rfl rfl (cP rfl (ay rfl rfl (aD _ (rfl:_=AV.ptr _ _)) (ay rfl rfl (br aa _ _ ar (bT T i N hi) tr rfl ae (by simp)) ?_)))))))))
 refine ay rfl rfl (aD _ (rfl:_=AV.v (.string _))) (ay rfl rfl (qJ (r:=false) _ _ Tryz.underlying9 rfl rfl (by exact bne_self_eq_false _)) ?_)
 refine ai (aG _ _ _ rfl (rfl:_=AV.v (.bool _))) (aj (aP rfl rfl (aI (am (bi rfl (ai (aS _ rfl rfl) (bE rfl rfl rfl (cH rfl rfl rfl (iX rfl rfl rfl (aj ?_))))))))))
 refine bF rfl rfl ?_
 refine aM (σ':=aB 28 [(0,_)] [((0,9),_)] [(0,9)] [(0,9)]) kp ?_
 refine an (bi rfl (ai (aO (cm T i N hi hT)) ?_))
 exact az (eR (.inl rfl) rfl (Le.outI [] [] (.tup rfl bu) rfl rfl rfl trivial ob tr rfl))
theorem jr {T:List Tk} {s:Tx} {lv i j:Nat} (h:pC T s lv i=some j):lv≤20∧fS T s i=some j:=by
 unfold pC at h
 split at h
 ·cases h
 ·rename_i hn
  refine ⟨?_,h⟩
  unfold fS at h
  split at h
  ·rename_i ht
   exact Nat.le_of_not_lt fun hl=> hn ⟨ht,hl⟩
  ·cases h
theorem ij {T:List Tk} {s:Tx} {i j:Nat} (h:fS T s i=some j) (hi:i < T.length):j < T.length:=by
 unfold fS at h
 split at h
 ·rw [← Option.some.inj h];exact dL hi
 ·cases h
theorem mw (T:List Tk) (i j:Nat) (N:List Tx) (s:Tx) (lv:Nat) (hi:i < T.length) (hT:T.length≤100000) (h:pC T s lv i=some j):
  Spec Tryz.prog 201 (bc [.ptr (0,9) 0, .v (bt s), .v (.int .i64 (lv:Int))] (dE T i N)) (bg (.tup []) (dE T j N) [(0,9)] [(0,9)]):=by
 obtain ⟨hl,he⟩:=jr h
 refine Spec.ofNI Tryz.func201 rfl Tryz.ntmps201 rfl ?_
 refine aq (am (bi rfl (ai (aS _ rfl rfl) (bE rfl rfl rfl (cH rfl rfl rfl (iX rfl rfl rfl (cP rfl (ay rfl rfl (aD _ (rfl:_=AV.ptr _ _)) (ay rfl rfl (br aa _ _ ar (bT T i N hi) tr rfl ae (by simp)) ?_)))))))))
 refine ay rfl rfl (aD _ (rfl:_=AV.v (.string _))) (ay rfl rfl (aT _ _ Tryz.underlying9 rfl rfl rfl) (ai (aG _ _ _ rfl (rfl:_=AV.v (.bool _))) (cP rfl (dJ (fun hg17=> ?_) (fun hg17=> ?_)))))
 ·skip
  refine ay rfl rfl (aD _ (rfl:_=AV.v (.int _ _))) (ay rfl rfl (dy (r:=false) _ _ rfl rfl (decide_eq_false ab)) ?_)
  refine ai (aG _ _ _ rfl (rfl:_=AV.v (.bool _))) (aj (aP rfl rfl (aI ?_)))
  refine aM (σ':=aB 30 [(0,_),(1,_)] [((0,9),_)] [(0,9)] [(0,9)]) kp ?_
  refine an (bi rfl (dI rfl (ai (aO (eZ T i j N s hi hT he)) ?_)))
  exact az (eR (.inl rfl) rfl (Le.outI [] [] (.tup rfl bu) rfl rfl rfl trivial ob tr rfl))
 ·skip
  refine aX rfl rfl ah ?_
  refine aX rfl rfl ah ?_
  refine ai (aG _ _ _ rfl (rfl:_=AV.v (.bool _))) (aj (aP rfl rfl (aI ?_)))
  refine aM (σ':=aB 30 [(0,_),(1,_)] [((0,9),_)] [(0,9)] [(0,9)]) kp ?_
  refine an (bi rfl (dI rfl (ai (aO (eZ T i j N s hi hT he)) ?_)))
  exact az (eR (.inl rfl) rfl (Le.outI [] [] (.tup rfl bu) rfl rfl rfl trivial ob tr rfl))
theorem jI (T:List Tk) (i:Nat) (N:List Tx) (most:Nat) (hi:i < T.length) (hT:T.length≤100000) (hm:most≤1000) (r:Nat×Nat) (h:mR T most i=some r):
  Spec Tryz.prog 200 (bc [.ptr (0,9) 0, .v (.int .i64 (most:Int))] (dE T i N)) (bg (.v (.int .i64 (r.1:Int))) (dE T r.2 N) [(0,9)] [(0,9)]):=by
 have ⟨h1,h2,h3⟩:(cW T i).k=2∧(cW T i).n≤most∧r=((cW T i).n,bP T i):=by
  unfold mR at h
  split at h
  ·rename_i hx;exact ⟨hx.1,hx.2,(Option.some.inj h).symm⟩
  ·cases h
 subst h3
 refine Spec.ofNI Tryz.func200 rfl Tryz.ntmps200 rfl ?_
 refine am (ba rfl (aj (aq (bG 11 [6,7,8,9,10,11,12,13,14,15,5] [(5,0)] ae ae rfl (aL rfl) (rfl:_=[_,_,_,_,_,_,_,_,_,_,_]) (rfl:_=[_]) ?_))))
 refine ap (_,[]) (fun τ=> aD _ (rfl:_=AV.ptr _ _)) ?_
 refine eH rfl ?_
 refine ap (_,[]) (fun τ=> aS _ rfl rfl) ?_
 refine eG rfl ?_
 refine ap (_,[]) (fun τ=> aJ _ aa rfl rfl rfl) ?_
 refine eI rfl ?_
 refine ap (_,[]) (fun τ=> aN _ aa rfl rfl (rfl:_=some (AV.sl _ _))) ?_
 refine eQ rfl ?_
 refine ap (_,[]) (fun τ=> aD _ (rfl:_=AV.ptr _ _)) ?_
 refine fb rfl ?_
 refine ap (_,[]) (fun τ=> aS _ rfl rfl) ?_
 refine fB rfl ?_
 refine ap (_,[]) (fun τ=> aJ _ aa rfl rfl rfl) ?_
 refine gD rfl ?_
 refine ap (_,[]) (fun τ=> aN _ aa rfl rfl (rfl:_=some (AV.v (.int _ _)))) ?_
 refine jL rfl ?_
 refine ap (_,[]) (fun τ=> bf _ _ aa rfl rfl _ rfl ab (by (simp only [aZ,bm,bl,bA,bv];omega)) ag) ?_
 refine jF rfl ?_
 refine ap (_,[]) (fun τ=> cg _ aa rfl (by exact lY _ _ hi) rfl) ?_
 refine fV rfl ?_
 refine ap (_,[((5,0),_)]) (fun τ=> ax (5,0) aa rfl rfl) ?_
 refine gB rfl (bh ⟨rfl,?_⟩)
 refine bO rfl rfl rfl rfl rfl rfl (aj (aq (am (bE rfl rfl rfl (cH rfl rfl rfl (ai (bX _ _ rfl rfl rfl) (aj (aP rfl (by rw [h1];rfl) ?_))))))))
 refine aq ?_
 refine aM (σ':=aB 44 [(0,_),(1,_),(5,_)] [((0,9),_),((5,0),_)] [(0,9)] [(0,9)]) kp ?_
 refine an (bE rfl rfl rfl (cH rfl rfl rfl (aQ rfl (ai (dy _ _ rfl rfl rfl) (aj (aP rfl (decide_eq_false ab) ?_))))))
 refine aI (aq (am (bi rfl (ai (aS _ rfl rfl) (bE rfl rfl rfl (cH rfl rfl rfl (ai (bX (r:=false) _ _ rfl rfl rfl) (aj (aP rfl rfl (aI ?_))))))))))
 refine am (bi rfl (ai (aO (cm T i N hi hT)) ?_))
 exact aj (am (bE rfl rfl rfl (cH rfl rfl rfl (ba rfl (aj (aC (aY (.inr rfl) rfl (.tmp (rfl:_=AV.v _)) (Le.outI [] [] .v rfl rfl rfl trivial ob tr rfl))))))))
abbrev Bm (T:List Tk) (i:Nat) (N:List Tx):List (aE×Cells):=[((0,9), .box 222 [.sl T.length (qu T), .v (.int .i64 (i:Int)), .v (.int .i64 0), .v (.int .i64 0), .ref (1,9) 0 N.length]),((1,9), .row 9 1 (dS N))]
theorem ep (T:List Tk) (i:Nat) (N:List Tx) (hi:i < T.length):
  Spec Tryz.prog 160 (bc [.ptr (0,9) 0] (Bm T i N)) (bg (.v (bt (cW T i).t)) (Bm T i N) [(0,9),(1,9)] [(0,9),(1,9)]):=by
 refine Spec.ofNI Tryz.func160 rfl Tryz.ntmps160 rfl ?_
 refine am (iW rfl (aj (aq (bG 12 [3,4,5,6,7,8,9,10,11,12,13,2] [] ae ae rfl (aL rfl) (rfl:_=[_,_,_,_,_,_,_,_,_,_,_,_]) (rfl:_=[]) ?_))))
 refine ap (_,[]) (fun τ=> aD _ (rfl:_=AV.ptr _ _)) ?_
 refine eH rfl ?_
 refine ap (_,[]) (fun τ=> aS _ rfl rfl) ?_
 refine eG rfl ?_
 refine ap (_,[]) (fun τ=> aJ _ aa rfl rfl rfl) ?_
 refine eI rfl ?_
 refine ap (_,[]) (fun τ=> aN _ aa rfl rfl (rfl:_=some (AV.sl _ _))) ?_
 refine eQ rfl ?_
 refine ap (_,[]) (fun τ=> aD _ (rfl:_=AV.ptr _ _)) ?_
 refine fb rfl ?_
 refine ap (_,[]) (fun τ=> aS _ rfl rfl) ?_
 refine fB rfl ?_
 refine ap (_,[]) (fun τ=> aJ _ aa rfl rfl rfl) ?_
 refine gD rfl ?_
 refine ap (_,[]) (fun τ=> aN _ aa rfl rfl (rfl:_=some (AV.v (.int _ _)))) ?_
 refine jL rfl ?_
 refine ap (_,[]) (fun τ=> bf _ _ aa rfl rfl _ rfl ab (by (simp only [aZ,bm,bl,bA,bv];omega)) ag) ?_
 refine jF rfl ?_
 refine ap (_,[]) (fun τ=> cO _ aa rfl rfl) ?_
 refine fV rfl ?_
 refine ap (_,[]) (fun τ=> bC _ aa rfl (by exact lD _ _ ab) rfl) ?_
 refine gB rfl ?_
 refine ap (_,[]) (fun τ=> bH _ (rfl:_=AV.v (.string _))) ?_
 refine kz rfl (bh ⟨rfl,?_⟩)
 exact aj (aC (aY (.inr rfl) rfl (.tmp (rfl:_=AV.v _)) (Le.outI [] [] .v rfl rfl rfl trivial ob tr rfl)))
theorem sD (T:List Tk) (i:Nat) (N:List Tx) (hi:i < T.length):
  Spec Tryz.prog 197 (bc [.ptr (0,9) 0] (Bm T i N)) (bg (.v (.bool (dX T i))) (Bm T i N) [(0,9),(1,9)] [(0,9),(1,9)]):=by
 refine Spec.ofNI Tryz.func197 rfl Tryz.ntmps197 rfl ?_
 refine am (ct rfl (aj (aq (bG 28 [3,4,5,6,7,8,9,10,11,12,13,14,15,16,17,18,19,20,21,22,23,24,25,26,27,28,29,2] [] ae ae rfl (aL rfl) (rfl:_=[_,_,_,_,_,_,_,_,_,_,_,_,_,_,_,_,_,_,_,_,_,_,_,_,_,_,_,_]) (rfl:_=[]) ?_))))
 refine ap (_,[]) (fun τ=> aD _ (rfl:_=AV.ptr _ _)) ?_
 refine eH rfl ?_
 refine ap (_,[]) (fun τ=> aS _ rfl rfl) ?_
 refine eG rfl ?_
 refine ap (_,[]) (fun τ=> aJ _ aa rfl rfl rfl) ?_
 refine eI rfl ?_
 refine ap (_,[]) (fun τ=> aN _ aa rfl rfl (rfl:_=some (AV.sl _ _))) ?_
 refine eQ rfl ?_
 refine ap (_,[]) (fun τ=> aD _ (rfl:_=AV.ptr _ _)) ?_
 refine fb rfl ?_
 refine ap (_,[]) (fun τ=> aS _ rfl rfl) ?_
 refine fB rfl ?_
 refine ap (_,[]) (fun τ=> aJ _ aa rfl rfl rfl) ?_
 refine gD rfl ?_
 refine ap (_,[]) (fun τ=> aN _ aa rfl rfl (rfl:_=some (AV.v (.int _ _)))) ?_
 refine jL rfl ?_
 refine ap (_,[]) (fun τ=> bf _ _ aa rfl rfl _ rfl ab (by (simp only [aZ,bm,bl,bA,bv];omega)) ag) ?_
 refine jF rfl ?_
 refine ap (_,[]) (fun τ=> cO _ aa rfl rfl) ?_
 refine fV rfl ?_
 refine ap (_,[]) (fun τ=> bC _ aa rfl (by exact nH _ _ ab) rfl) ?_
 refine gB rfl ?_
 refine ap (_,[]) (fun τ=> bR _ _ rfl rfl rfl) ?_
 refine kz rfl ?_
 refine ap (_,[]) (fun τ=> aD _ (rfl:_=AV.v (.bool _))) ?_
 refine mn (fun hg15=> ?_) (fun hg15=> ?_)
 ·skip
  have hr:dX T i= !tg (cW T i).t:=by unfold dX;rw [decide_eq_true ab];rfl
  refine lf rfl ?_
  refine bV (_,[]) rfl (fun τ=> rfl) (fun τ=> aD _ (rfl:_=AV.ptr _ _)) ?_
  refine oB rfl ?_
  refine bV (_,[]) rfl (fun τ=> rfl) (fun τ=> aS _ rfl rfl) ?_
  refine uM rfl ?_
  refine bV (_,[]) rfl (fun τ=> rfl) (fun τ=> aJ _ aa rfl rfl rfl) ?_
  refine we rfl ?_
  refine bV (_,[]) rfl (fun τ=> rfl) (fun τ=> aN _ aa rfl rfl (rfl:_=some (AV.sl _ _))) ?_
  refine xt rfl ?_
  refine bV (_,[]) rfl (fun τ=> rfl) (fun τ=> aD _ (rfl:_=AV.ptr _ _)) ?_
  refine yo rfl ?_
  refine bV (_,[]) rfl (fun τ=> rfl) (fun τ=> aS _ rfl rfl) ?_
  refine xE rfl ?_
  refine bV (_,[]) rfl (fun τ=> rfl) (fun τ=> aJ _ aa rfl rfl rfl) ?_
  refine zK rfl ?_
  refine bV (_,[]) rfl (fun τ=> rfl) (fun τ=> aN _ aa rfl rfl (rfl:_=some (AV.v (.int _ _)))) ?_
  refine Bd rfl ?_
  refine bV (_,[]) rfl (fun τ=> rfl) (fun τ=> bf _ _ aa rfl rfl _ rfl ab (by (simp only [aZ,bm,bl,bA,bv];omega)) ag) ?_
  refine AT rfl ?_
  refine bV (_,[]) rfl (fun τ=> rfl) (fun τ=> cO _ aa rfl rfl) ?_
  refine AN rfl ?_
  refine bV (_,[]) rfl (fun τ=> rfl) (fun τ=> bC _ aa rfl (by exact lD _ _ ab) rfl) ?_
  refine Bu rfl ?_
  refine bV (_,[]) rfl (fun τ=> rfl) (fun τ=> (aK aa al (kC (cW T i).t) rfl rfl)) ?_
  refine zU rfl ?_
  refine bV (_,[]) rfl (fun τ=> rfl) (fun τ=> cZ _ rfl rfl) ?_
  refine zQ rfl ?_
  refine ap (_,[]) (fun τ=> aG _ _ _ rfl (rfl:_=AV.v (.bool _))) ?_
  refine AR rfl ?_
  refine ap (_,[]) (fun τ=> bH _ (rfl:_=AV.v (.bool _))) ?_
  refine BB rfl (bh ⟨rfl,?_⟩)
  exact aj (aC (aY (.inr rfl) rfl (.tmp (rfl:_=AV.v (.bool _))) (Le.outI [] [] (hZ hr) rfl rfl rfl trivial ob tr rfl)))
 ·skip
  have hr:dX T i=false:=by unfold dX;rw [decide_eq_false ab];rfl
  refine lf rfl ?_
  refine cL rfl (fun τ=> rfl) ah ?_
  refine oB rfl ?_
  refine cL rfl (fun τ=> rfl) ah ?_
  refine uM rfl ?_
  refine cL rfl (fun τ=> rfl) ah ?_
  refine we rfl ?_
  refine cL rfl (fun τ=> rfl) ah ?_
  refine xt rfl ?_
  refine cL rfl (fun τ=> rfl) ah ?_
  refine yo rfl ?_
  refine cL rfl (fun τ=> rfl) ah ?_
  refine xE rfl ?_
  refine cL rfl (fun τ=> rfl) ah ?_
  refine zK rfl ?_
  refine cL rfl (fun τ=> rfl) ah ?_
  refine Bd rfl ?_
  refine cL rfl (fun τ=> rfl) ah ?_
  refine AT rfl ?_
  refine cL rfl (fun τ=> rfl) ah ?_
  refine AN rfl ?_
  refine cL rfl (fun τ=> rfl) ah ?_
  refine Bu rfl ?_
  refine cL rfl (fun τ=> rfl) ah ?_
  refine zU rfl ?_
  refine cL rfl (fun τ=> rfl) ah ?_
  refine zQ rfl ?_
  refine ap (_,[]) (fun τ=> aG _ _ _ rfl (rfl:_=AV.v (.bool _))) ?_
  refine AR rfl ?_
  refine ap (_,[]) (fun τ=> bH _ (rfl:_=AV.v (.bool _))) ?_
  refine BB rfl (bh ⟨rfl,?_⟩)
  exact aj (aC (aY (.inr rfl) rfl (.tmp (rfl:_=AV.v (.bool _))) (Le.outI [] [] (hZ hr) rfl rfl rfl trivial ob tr rfl)))
theorem jl (T:List Tk) (i:Nat) (N:List Tx) (hi:i < T.length) (hT:T.length≤100000):
  Spec Tryz.prog 196 (bc [.ptr (0,9) 0] (Bm T i N)) (bg (.tup []) (Bm T (bP T i) N) [(0,9),(1,9)] [(0,9),(1,9)]):=by
 refine Spec.ofNI Tryz.func196 rfl Tryz.ntmps196 rfl ?_
 refine aq (bG 11 [2,3,4,5,6,7,8,9,10,11,12] [] ae ae rfl (aL rfl) (rfl:_=[_,_,_,_,_,_,_,_,_,_,_]) (rfl:_=[]) ?_)
 refine ap (_,[]) (fun τ=> aD _ (rfl:_=AV.ptr _ _)) ?_
 refine eH rfl ?_
 refine ap (_,[]) (fun τ=> aS _ rfl rfl) ?_
 refine eG rfl ?_
 refine ap (_,[]) (fun τ=> aJ _ aa rfl rfl rfl) ?_
 refine eI rfl ?_
 refine ap (_,[]) (fun τ=> aN _ aa rfl rfl (rfl:_=some (AV.v (.int _ _)))) ?_
 refine eQ rfl ?_
 refine ap (_,[]) (fun τ=> be _ _ rfl rfl (bq ab)) ?_
 refine fb rfl ?_
 refine ap (_,[]) (fun τ=> aD _ (rfl:_=AV.ptr _ _)) ?_
 refine fB rfl ?_
 refine ap (_,[]) (fun τ=> aS _ rfl rfl) ?_
 refine gD rfl ?_
 refine ap (_,[]) (fun τ=> aJ _ aa rfl rfl rfl) ?_
 refine jL rfl ?_
 refine ap (_,[]) (fun τ=> aN _ aa rfl rfl (rfl:_=some (AV.sl _ _))) ?_
 refine jF rfl ?_
 refine ap (_,[]) (fun τ=> bB _ aa rfl) ?_
 refine fV rfl ?_
 refine ap (_,[]) (fun τ=> bp _ _ rfl rfl rfl) ?_
 refine gB rfl (bh ⟨rfl,?_⟩)
 refine aj (aU rfl (fun hc12=> ?_) (fun hc12=> ?_))
 ·skip
  have ht:bP T i=i+1:=by unfold bP;rw [if_pos ab]
  refine an (bi rfl (ai (aS _ rfl rfl) (bE rfl rfl rfl (cH rfl rfl rfl (ai (be _ _ rfl rfl (bq ab)) ?_)))))
  exact ai (aS _ rfl rfl) (bE rfl rfl rfl (bO rfl rfl rfl rfl rfl rfl (az (eR (.inl rfl) rfl (Le.outI [] [] (.tup rfl bu) rfl rfl rfl trivial ⟨⟨rfl,⟨_,rfl, .box rfl (aH .sl (aH (ci (by rw [ht] <;> omega)) lz))⟩,rfl⟩,⟨rfl,⟨_,rfl, .rowE rfl⟩,rfl⟩,trivial⟩ tr rfl)))))
 ·skip
  have ht:bP T i=i:=by unfold bP;rw [if_neg ab]
  exact bw (eR (.inl rfl) rfl (Le.outI [] [] (.tup rfl bu) rfl rfl rfl trivial ⟨⟨rfl,⟨_,rfl, .box rfl (aH .sl (aH (ci (by rw [ht] <;> omega)) lz))⟩,rfl⟩,⟨rfl,⟨_,rfl, .rowE rfl⟩,rfl⟩,trivial⟩ tr rfl))
theorem pX (T:List Tk) (i j:Nat) (N:List Tx) (s:Tx) (hi:i < T.length) (hT:T.length≤100000) (h:fS T s i=some j):
  Spec Tryz.prog 162 (bc [.ptr (0,9) 0, .v (bt s)] (Bm T i N)) (bg (.tup []) (Bm T j N) [(0,9),(1,9)] [(0,9),(1,9)]):=by
 have ⟨hs,hj⟩:(cW T i).t=s∧bP T i=j:=by
  unfold fS at h
  split at h
  ·exact ⟨by assumption,Option.some.inj h⟩
  ·cases h
 subst hs
 subst hj
 refine Spec.ofNI Tryz.func162 rfl Tryz.ntmps162 rfl ?_
 refine aq (am (bi rfl (ai (aS _ rfl rfl) (bE rfl rfl rfl (cH rfl rfl rfl (iX rfl rfl rfl (cP rfl (ay rfl rfl (aD _ (rfl:_=AV.ptr _ _)) (ay rfl rfl (br aa _ _ ar (ep T i N hi) tr rfl ae (by simp)) ?_)))))))))
 refine ay rfl rfl (aD _ (rfl:_=AV.v (.string _))) (ay rfl rfl (qJ (r:=false) _ _ Tryz.underlying9 rfl rfl (by exact bne_self_eq_false _)) ?_)
 refine ai (aG _ _ _ rfl (rfl:_=AV.v (.bool _))) (aj (aP rfl rfl (aI (am (bi rfl (ai (aS _ rfl rfl) (bE rfl rfl rfl (cH rfl rfl rfl (iX rfl rfl rfl (aj ?_))))))))))
 refine bF rfl rfl ?_
 refine aM (σ':=aB 28 [(0,_)] [((0,9),_),((1,9),_)] [(0,9),(1,9)] [(0,9),(1,9)]) kp ?_
 refine an (bi rfl (ai (dc aa [] ar (jl T i N hi hT) ob tr ae) ?_))
 exact az (eR (.inl rfl) rfl (Le.outI [] [] (.tup rfl bu) rfl rfl rfl trivial ob tr rfl))
end Go.Proofs.YtmjnackchaahbaaGreat
