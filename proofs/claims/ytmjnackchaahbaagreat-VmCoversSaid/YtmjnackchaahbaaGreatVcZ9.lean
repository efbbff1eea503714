/- Part 9 of the texts that the walk leans on: the machine, the walks, the plain laws. -/
import Derived.Test.YtmjnackchaahbaaGreatVcZ8
set_option linter.unusedSimpArgs false
set_option linter.unusedVariables false
namespace Go.Proofs.YtmjnackchaahbaaGreat

instance TT:Bld Tryz.prog 24 Gk (fun i=> some (i*1,1)):=Bld.array (bytes:=320) (.agg (Gk).toArray) Tryz.underlying24 ae rfl (by simp [Value.oneCell']) ae
instance TS:Bld Tryz.prog 25 Er (fun i=> ([(0,1),(1,40),(41,1),(42,1)]:List (Nat×Nat))[i]?):=Bld.struct (bytes:=360) (.agg (Er).toArray) [(0,1),(1,40),(41,1),(42,1)] Tryz.underlying25 ae rfl (by simp [Value.oneCell']) (fun w=> by kernel_rfl)
instance TH:Bld Tryz.prog 26 Er (fun i=> ([(0,1),(1,40),(41,1),(42,1)]:List (Nat×Nat))[i]?):=Bld.struct (bytes:=360) (.agg (Er).toArray) [(0,1),(1,40),(41,1),(42,1)] Tryz.underlying26 ae rfl (by simp [Value.oneCell']) (fun w=> by kernel_rfl)
instance Rm:Bld Tryz.prog 30 tQ (fun i=> some (i*1,1)):=Bld.array (bytes:=72) (.agg (tQ).toArray) Tryz.underlying30 ae rfl (by simp [Value.oneCell']) ae
instance Ts:Bld Tryz.prog 33 Cj (fun i=> ([(0,1),(1,1),(2,1),(3,1),(4,1)]:List (Nat×Nat))[i]?):=Bld.struct (bytes:=88) (.agg (Cj).toArray) [(0,1),(1,1),(2,1),(3,1),(4,1)] Tryz.underlying33 ae rfl (by simp [Value.oneCell']) (fun w=> by kernel_rfl)
instance So:Bld Tryz.prog 34 Cj (fun i=> ([(0,1),(1,1),(2,1),(3,1),(4,1)]:List (Nat×Nat))[i]?):=Bld.struct (bytes:=88) (.agg (Cj).toArray) [(0,1),(1,1),(2,1),(3,1),(4,1)] Tryz.underlying34 ae rfl (by simp [Value.oneCell']) (fun w=> by kernel_rfl)
instance SJ:Bld Tryz.prog 38 BZ (fun i=> ([(0,1),(1,1),(2,1),(3,1),(4,1),(5,1)]:List (Nat×Nat))[i]?):=Bld.struct (bytes:=112) (.agg (BZ).toArray) [(0,1),(1,1),(2,1),(3,1),(4,1),(5,1)] Tryz.underlying38 ae rfl (by simp [Value.oneCell']) (fun w=> by kernel_rfl)
instance Sv:Bld Tryz.prog 39 BZ (fun i=> ([(0,1),(1,1),(2,1),(3,1),(4,1),(5,1)]:List (Nat×Nat))[i]?):=Bld.struct (bytes:=112) (.agg (BZ).toArray) [(0,1),(1,1),(2,1),(3,1),(4,1),(5,1)] Tryz.underlying39 ae rfl (by simp [Value.oneCell']) (fun w=> by kernel_rfl)
instance TI:Bld Tryz.prog 44 [.int .i64 0, .int .i64 0] (fun i=> some (i*1,1)):=Bld.array (bytes:=16) (.agg #[.int .i64 0, .int .i64 0]) Tryz.underlying44 ae rfl (by simp [Value.oneCell']) ae
instance RM:Bld Tryz.prog 47 [.int .i64 0, .int .i64 0] (fun i=> ([(0,1),(1,1)]:List (Nat×Nat))[i]?):=Bld.struct (bytes:=16) (.agg #[.int .i64 0, .int .i64 0]) [(0,1),(1,1)] Tryz.underlying47 ae rfl (by simp [Value.oneCell']) (fun w=> by kernel_rfl)
instance RS:Bld Tryz.prog 48 [.int .i64 0, .int .i64 0] (fun i=> ([(0,1),(1,1)]:List (Nat×Nat))[i]?):=Bld.struct (bytes:=16) (.agg #[.int .i64 0, .int .i64 0]) [(0,1),(1,1)] Tryz.underlying48 ae rfl (by simp [Value.oneCell']) (fun w=> by kernel_rfl)
instance Tb:Bld Tryz.prog 56 mG (fun i=> ([(0,1),(1,1),(2,1),(3,1),(4,1)]:List (Nat×Nat))[i]?):=Bld.struct (bytes:=40) (.agg (mG).toArray) [(0,1),(1,1),(2,1),(3,1),(4,1)] Tryz.underlying56 ae rfl (by simp [Value.oneCell']) (fun w=> by kernel_rfl)
instance RY:Bld Tryz.prog 57 mG (fun i=> ([(0,1),(1,1),(2,1),(3,1),(4,1)]:List (Nat×Nat))[i]?):=Bld.struct (bytes:=40) (.agg (mG).toArray) [(0,1),(1,1),(2,1),(3,1),(4,1)] Tryz.underlying57 ae rfl (by simp [Value.oneCell']) (fun w=> by kernel_rfl)
instance Tj:Bld Tryz.prog 63 En (fun i=> ([(0,1),(1,1),(2,1)]:List (Nat×Nat))[i]?):=Bld.struct (bytes:=72) (.agg (En).toArray) [(0,1),(1,1),(2,1)] Tryz.underlying63 ae rfl (by simp [Value.oneCell']) (fun w=> by kernel_rfl)
instance SV:Bld Tryz.prog 64 En (fun i=> ([(0,1),(1,1),(2,1)]:List (Nat×Nat))[i]?):=Bld.struct (bytes:=72) (.agg (En).toArray) [(0,1),(1,1),(2,1)] Tryz.underlying64 ae rfl (by simp [Value.oneCell']) (fun w=> by kernel_rfl)
instance Tq:Bld Tryz.prog 70 BX (fun i=> ([(0,1),(1,1),(2,1),(3,1)]:List (Nat×Nat))[i]?):=Bld.struct (bytes:=56) (.agg (BX).toArray) [(0,1),(1,1),(2,1),(3,1)] Tryz.underlying70 ae rfl (by simp [Value.oneCell']) (fun w=> by kernel_rfl)
instance SR:Bld Tryz.prog 71 BX (fun i=> ([(0,1),(1,1),(2,1),(3,1)]:List (Nat×Nat))[i]?):=Bld.struct (bytes:=56) (.agg (BX).toArray) [(0,1),(1,1),(2,1),(3,1)] Tryz.underlying71 ae rfl (by simp [Value.oneCell']) (fun w=> by kernel_rfl)
instance TP:Bld Tryz.prog 72 Co (fun i=> ([(0,1),(1,4)]:List (Nat×Nat))[i]?):=Bld.struct (bytes:=64) (.agg (Co).toArray) [(0,1),(1,4)] Tryz.underlying72 ae rfl (by simp [Value.oneCell']) (fun w=> by kernel_rfl)
instance Ti:Bld Tryz.prog 73 Co (fun i=> ([(0,1),(1,4)]:List (Nat×Nat))[i]?):=Bld.struct (bytes:=64) (.agg (Co).toArray) [(0,1),(1,4)] Tryz.underlying73 ae rfl (by simp [Value.oneCell']) (fun w=> by kernel_rfl)
instance RA:Bld Tryz.prog 79 [.slice none 0 0, .slice none 0 0] (fun i=> ([(0,1),(1,1)]:List (Nat×Nat))[i]?):=Bld.struct (bytes:=48) (.agg #[.slice none 0 0, .slice none 0 0]) [(0,1),(1,1)] Tryz.underlying79 ae rfl (by simp [Value.oneCell']) (fun w=> by kernel_rfl)
instance TJ:Bld Tryz.prog 80 [.slice none 0 0, .slice none 0 0] (fun i=> ([(0,1),(1,1)]:List (Nat×Nat))[i]?):=Bld.struct (bytes:=48) (.agg #[.slice none 0 0, .slice none 0 0]) [(0,1),(1,1)] Tryz.underlying80 ae rfl (by simp [Value.oneCell']) (fun w=> by kernel_rfl)
instance Tc:Bld Tryz.prog 81 Hz (fun i=> some (i*1,1)):=Bld.array (bytes:=328) (.agg (Hz).toArray) Tryz.underlying81 ae rfl (by simp [Value.oneCell']) ae
instance Sk:Bld Tryz.prog 82 uE (fun i=> ([(0,1),(1,1),(2,1),(3,1),(4,2),(6,1),(7,1),(8,41),(49,1),(50,1),(51,1)]:List (Nat×Nat))[i]?):=Bld.struct (bytes:=480) (.agg (uE).toArray) [(0,1),(1,1),(2,1),(3,1),(4,2),(6,1),(7,1),(8,41),(49,1),(50,1),(51,1)] Tryz.underlying82 ae rfl (by simp [Value.oneCell']) (fun w=> by kernel_rfl)
instance RQ:Bld Tryz.prog 83 uE (fun i=> ([(0,1),(1,1),(2,1),(3,1),(4,2),(6,1),(7,1),(8,41),(49,1),(50,1),(51,1)]:List (Nat×Nat))[i]?):=Bld.struct (bytes:=480) (.agg (uE).toArray) [(0,1),(1,1),(2,1),(3,1),(4,2),(6,1),(7,1),(8,41),(49,1),(50,1),(51,1)] Tryz.underlying83 ae rfl (by simp [Value.oneCell']) (fun w=> by kernel_rfl)
instance RU:Bld Tryz.prog 86 vy (fun i=> ([(0,1),(1,1),(2,9),(11,1),(12,1),(13,1),(14,1)]:List (Nat×Nat))[i]?):=Bld.struct (bytes:=152) (.agg (vy).toArray) [(0,1),(1,1),(2,9),(11,1),(12,1),(13,1),(14,1)] Tryz.underlying86 ae rfl (by simp [Value.oneCell']) (fun w=> by kernel_rfl)
instance Tl:Bld Tryz.prog 87 vy (fun i=> ([(0,1),(1,1),(2,9),(11,1),(12,1),(13,1),(14,1)]:List (Nat×Nat))[i]?):=Bld.struct (bytes:=152) (.agg (vy).toArray) [(0,1),(1,1),(2,9),(11,1),(12,1),(13,1),(14,1)] Tryz.underlying87 ae rfl (by simp [Value.oneCell']) (fun w=> by kernel_rfl)
instance Rt:Bld Tryz.prog 90 vC (fun i=> ([(0,1),(1,1),(2,1)]:List (Nat×Nat))[i]?):=Bld.struct (bytes:=24) (.agg (vC).toArray) [(0,1),(1,1),(2,1)] Tryz.underlying90 ae rfl (by simp [Value.oneCell']) (fun w=> by kernel_rfl)
instance TC:Bld Tryz.prog 91 vC (fun i=> ([(0,1),(1,1),(2,1)]:List (Nat×Nat))[i]?):=Bld.struct (bytes:=24) (.agg (vC).toArray) [(0,1),(1,1),(2,1)] Tryz.underlying91 ae rfl (by simp [Value.oneCell']) (fun w=> by kernel_rfl)
instance Sc:Bld Tryz.prog 92 Al (fun i=> ([(0,52),(52,1),(53,1),(54,1),(55,1),(56,1),(57,3),(60,6),(66,1)]:List (Nat×Nat))[i]?):=Bld.struct (bytes:=728) (.agg (Al).toArray) [(0,52),(52,1),(53,1),(54,1),(55,1),(56,1),(57,3),(60,6),(66,1)] Tryz.underlying92 ae rfl (by simp [Value.oneCell']) (fun w=> by kernel_rfl)
instance Sg:Bld Tryz.prog 93 Al (fun i=> ([(0,52),(52,1),(53,1),(54,1),(55,1),(56,1),(57,3),(60,6),(66,1)]:List (Nat×Nat))[i]?):=Bld.struct (bytes:=728) (.agg (Al).toArray) [(0,52),(52,1),(53,1),(54,1),(55,1),(56,1),(57,3),(60,6),(66,1)] Tryz.underlying93 ae rfl (by simp [Value.oneCell']) (fun w=> by kernel_rfl)
instance TD:Bld Tryz.prog 95 vd (fun i=> ([(0,3),(3,1),(4,1),(5,1),(6,1),(7,5)]:List (Nat×Nat))[i]?):=Bld.struct (bytes:=176) (.agg (vd).toArray) [(0,3),(3,1),(4,1),(5,1),(6,1),(7,5)] Tryz.underlying95 ae rfl (by simp [Value.oneCell']) (fun w=> by kernel_rfl)
instance Te:Bld Tryz.prog 96 vd (fun i=> ([(0,3),(3,1),(4,1),(5,1),(6,1),(7,5)]:List (Nat×Nat))[i]?):=Bld.struct (bytes:=176) (.agg (vd).toArray) [(0,3),(3,1),(4,1),(5,1),(6,1),(7,5)] Tryz.underlying96 ae rfl (by simp [Value.oneCell']) (fun w=> by kernel_rfl)
instance MW:Bld Tryz.prog 102 ry (fun i=> ([(0,3),(3,1),(4,1)]:List (Nat×Nat))[i]?):=Bld.struct (bytes:=72) (.agg (ry).toArray) [(0,3),(3,1),(4,1)] Tryz.underlying102 ae rfl (by simp [Value.oneCell']) (fun w=> by kernel_rfl)
instance Ng:Bld Tryz.prog 103 ry (fun i=> ([(0,3),(3,1),(4,1)]:List (Nat×Nat))[i]?):=Bld.struct (bytes:=72) (.agg (ry).toArray) [(0,3),(3,1),(4,1)] Tryz.underlying103 ae rfl (by simp [Value.oneCell']) (fun w=> by kernel_rfl)
instance PB:Bld Tryz.prog 108 mG (fun i=> ([(0,3),(3,1),(4,1)]:List (Nat×Nat))[i]?):=Bld.struct (bytes:=40) (.agg (mG).toArray) [(0,3),(3,1),(4,1)] Tryz.underlying108 ae rfl (by simp [Value.oneCell']) (fun w=> by kernel_rfl)
instance NR:Bld Tryz.prog 109 mG (fun i=> ([(0,3),(3,1),(4,1)]:List (Nat×Nat))[i]?):=Bld.struct (bytes:=40) (.agg (mG).toArray) [(0,3),(3,1),(4,1)] Tryz.underlying109 ae rfl (by simp [Value.oneCell']) (fun w=> by kernel_rfl)
instance Rc:Bld Tryz.prog 110 oI (fun i=> ([(0,5),(5,1),(6,1)]:List (Nat×Nat))[i]?):=Bld.struct (bytes:=56) (.agg (oI).toArray) [(0,5),(5,1),(6,1)] Tryz.underlying110 ae rfl (by simp [Value.oneCell']) (fun w=> by kernel_rfl)
instance Ow:Bld Tryz.prog 111 oI (fun i=> ([(0,5),(5,1),(6,1)]:List (Nat×Nat))[i]?):=Bld.struct (bytes:=56) (.agg (oI).toArray) [(0,5),(5,1),(6,1)] Tryz.underlying111 ae rfl (by simp [Value.oneCell']) (fun w=> by kernel_rfl)
instance PM:Bld Tryz.prog 114 mG (fun i=> ([(0,3),(3,1),(4,1)]:List (Nat×Nat))[i]?):=Bld.struct (bytes:=40) (.agg (mG).toArray) [(0,3),(3,1),(4,1)] Tryz.underlying114 ae rfl (by simp [Value.oneCell']) (fun w=> by kernel_rfl)
instance QF:Bld Tryz.prog 115 mG (fun i=> ([(0,3),(3,1),(4,1)]:List (Nat×Nat))[i]?):=Bld.struct (bytes:=40) (.agg (mG).toArray) [(0,3),(3,1),(4,1)] Tryz.underlying115 ae rfl (by simp [Value.oneCell']) (fun w=> by kernel_rfl)
instance PT:Bld Tryz.prog 116 tQ (fun i=> ([(0,5),(5,1),(6,1),(7,1),(8,1)]:List (Nat×Nat))[i]?):=Bld.struct (bytes:=72) (.agg (tQ).toArray) [(0,5),(5,1),(6,1),(7,1),(8,1)] Tryz.underlying116 ae rfl (by simp [Value.oneCell']) (fun w=> by kernel_rfl)
instance QB:Bld Tryz.prog 117 tQ (fun i=> ([(0,5),(5,1),(6,1),(7,1),(8,1)]:List (Nat×Nat))[i]?):=Bld.struct (bytes:=72) (.agg (tQ).toArray) [(0,5),(5,1),(6,1),(7,1),(8,1)] Tryz.underlying117 ae rfl (by simp [Value.oneCell']) (fun w=> by kernel_rfl)
instance QH:Bld Tryz.prog 125 [.int .i64 0, .int .i64 0] (fun i=> ([(0,1),(1,1)]:List (Nat×Nat))[i]?):=Bld.struct (bytes:=16) (.agg #[.int .i64 0, .int .i64 0]) [(0,1),(1,1)] Tryz.underlying125 ae rfl (by simp [Value.oneCell']) (fun w=> by kernel_rfl)
instance QU:Bld Tryz.prog 126 [.int .i64 0, .int .i64 0] (fun i=> ([(0,1),(1,1)]:List (Nat×Nat))[i]?):=Bld.struct (bytes:=16) (.agg #[.int .i64 0, .int .i64 0]) [(0,1),(1,1)] Tryz.underlying126 ae rfl (by simp [Value.oneCell']) (fun w=> by kernel_rfl)
instance Py:Bld Tryz.prog 128 uA (fun i=> ([(0,1),(1,1),(2,1)]:List (Nat×Nat))[i]?):=Bld.struct (bytes:=56) (.agg (uA).toArray) [(0,1),(1,1),(2,1)] Tryz.underlying128 ae rfl (by simp [Value.oneCell']) (fun w=> by kernel_rfl)
instance Oz:Bld Tryz.prog 129 uA (fun i=> ([(0,1),(1,1),(2,1)]:List (Nat×Nat))[i]?):=Bld.struct (bytes:=56) (.agg (uA).toArray) [(0,1),(1,1),(2,1)] Tryz.underlying129 ae rfl (by simp [Value.oneCell']) (fun w=> by kernel_rfl)
instance MV:Bld Tryz.prog 131 vi (fun i=> ([(0,1),(1,9)]:List (Nat×Nat))[i]?):=Bld.struct (bytes:=96) (.agg (vi).toArray) [(0,1),(1,9)] Tryz.underlying131 ae rfl (by simp [Value.oneCell']) (fun w=> by kernel_rfl)
instance NA:Bld Tryz.prog 132 vi (fun i=> ([(0,1),(1,9)]:List (Nat×Nat))[i]?):=Bld.struct (bytes:=96) (.agg (vi).toArray) [(0,1),(1,9)] Tryz.underlying132 ae rfl (by simp [Value.oneCell']) (fun w=> by kernel_rfl)
instance OK:Bld Tryz.prog 138 [.slice none 0 0, .int .i64 0] (fun i=> ([(0,1),(1,1)]:List (Nat×Nat))[i]?):=Bld.struct (bytes:=32) (.agg #[.slice none 0 0, .int .i64 0]) [(0,1),(1,1)] Tryz.underlying138 ae rfl (by simp [Value.oneCell']) (fun w=> by kernel_rfl)
instance QR:Bld Tryz.prog 139 [.slice none 0 0, .int .i64 0] (fun i=> ([(0,1),(1,1)]:List (Nat×Nat))[i]?):=Bld.struct (bytes:=32) (.agg #[.slice none 0 0, .int .i64 0]) [(0,1),(1,1)] Tryz.underlying139 ae rfl (by simp [Value.oneCell']) (fun w=> by kernel_rfl)
instance Ny:Bld Tryz.prog 142 vq (fun i=> ([(0,3),(3,1)]:List (Nat×Nat))[i]?):=Bld.struct (bytes:=96) (.agg (vq).toArray) [(0,3),(3,1)] Tryz.underlying142 ae rfl (by simp [Value.oneCell']) (fun w=> by kernel_rfl)
instance Qi:Bld Tryz.prog 143 vq (fun i=> ([(0,3),(3,1)]:List (Nat×Nat))[i]?):=Bld.struct (bytes:=96) (.agg (vq).toArray) [(0,3),(3,1)] Tryz.underlying143 ae rfl (by simp [Value.oneCell']) (fun w=> by kernel_rfl)
instance Pk:Bld Tryz.prog 170 vB (fun i=> ([(0,43),(43,10),(53,1),(54,5),(59,1),(60,1),(61,1),(62,1),(63,1)]:List (Nat×Nat))[i]?):=Bld.struct (bytes:=608) (.agg (vB).toArray) [(0,43),(43,10),(53,1),(54,5),(59,1),(60,1),(61,1),(62,1),(63,1)] Tryz.underlying170 ae rfl (by simp [Value.oneCell']) (fun w=> by kernel_rfl)
instance Ou:Bld Tryz.prog 171 vB (fun i=> ([(0,43),(43,10),(53,1),(54,5),(59,1),(60,1),(61,1),(62,1),(63,1)]:List (Nat×Nat))[i]?):=Bld.struct (bytes:=608) (.agg (vB).toArray) [(0,43),(43,10),(53,1),(54,5),(59,1),(60,1),(61,1),(62,1),(63,1)] Tryz.underlying171 ae rfl (by simp [Value.oneCell']) (fun w=> by kernel_rfl)
instance Rb:Bld Tryz.prog 173 BE (fun i=> some (i*1,1)):=Bld.array (bytes:=192) (.agg (BE).toArray) Tryz.underlying173 ae rfl (by simp [Value.oneCell']) ae
instance OE:Bld Tryz.prog 176 [] (fun i=> ([]:List (Nat×Nat))[i]?):=Bld.struct (bytes:=0) (.agg #[]) [] Tryz.underlying176 ae rfl (by simp [Value.oneCell']) (fun w=> by kernel_rfl)
instance QW:Bld Tryz.prog 191 uN (fun i=> ([(0,1),(1,1),(2,1),(3,1)]:List (Nat×Nat))[i]?):=Bld.struct (bytes:=32) (.agg (uN).toArray) [(0,1),(1,1),(2,1),(3,1)] Tryz.underlying191 ae rfl (by simp [Value.oneCell']) (fun w=> by kernel_rfl)
instance NH:Bld Tryz.prog 192 uN (fun i=> ([(0,1),(1,1),(2,1),(3,1)]:List (Nat×Nat))[i]?):=Bld.struct (bytes:=32) (.agg (uN).toArray) [(0,1),(1,1),(2,1),(3,1)] Tryz.underlying192 ae rfl (by simp [Value.oneCell']) (fun w=> by kernel_rfl)
instance NO:Bld Tryz.prog 195 ri (fun i=> ([(0,5),(5,1)]:List (Nat×Nat))[i]?):=Bld.struct (bytes:=48) (.agg (ri).toArray) [(0,5),(5,1)] Tryz.underlying195 ae rfl (by simp [Value.oneCell']) (fun w=> by kernel_rfl)
instance Ri:Bld Tryz.prog 196 ri (fun i=> ([(0,5),(5,1)]:List (Nat×Nat))[i]?):=Bld.struct (bytes:=48) (.agg (ri).toArray) [(0,5),(5,1)] Tryz.underlying196 ae rfl (by simp [Value.oneCell']) (fun w=> by kernel_rfl)
instance PR:Bld Tryz.prog 221 vA (fun i=> ([(0,1),(1,1),(2,1),(3,1),(4,1)]:List (Nat×Nat))[i]?):=Bld.struct (bytes:=72) (.agg (vA).toArray) [(0,1),(1,1),(2,1),(3,1),(4,1)] Tryz.underlying221 ae rfl (by simp [Value.oneCell']) (fun w=> by kernel_rfl)
instance Om:Bld Tryz.prog 222 vA (fun i=> ([(0,1),(1,1),(2,1),(3,1),(4,1)]:List (Nat×Nat))[i]?):=Bld.struct (bytes:=72) (.agg (vA).toArray) [(0,1),(1,1),(2,1),(3,1),(4,1)] Tryz.underlying222 ae rfl (by simp [Value.oneCell']) (fun w=> by kernel_rfl)
instance ND:Bld Tryz.prog 224 rX (fun i=> ([(0,1),(1,1),(2,1),(3,1)]:List (Nat×Nat))[i]?):=Bld.struct (bytes:=40) (.agg (rX).toArray) [(0,1),(1,1),(2,1),(3,1)] Tryz.underlying224 ae rfl (by simp [Value.oneCell']) (fun w=> by kernel_rfl)
instance Qx:Bld Tryz.prog 225 rX (fun i=> ([(0,1),(1,1),(2,1),(3,1)]:List (Nat×Nat))[i]?):=Bld.struct (bytes:=40) (.agg (rX).toArray) [(0,1),(1,1),(2,1),(3,1)] Tryz.underlying225 ae rfl (by simp [Value.oneCell']) (fun w=> by kernel_rfl)
instance MU:Bld Tryz.prog 287 Fh (fun i=> ([(0,1),(1,1),(2,1),(3,1),(4,1),(5,1),(6,1),(7,1),(8,1),(9,1),(10,1)]:List (Nat×Nat))[i]?):=Bld.struct (bytes:=48) (.agg (Fh).toArray) [(0,1),(1,1),(2,1),(3,1),(4,1),(5,1),(6,1),(7,1),(8,1),(9,1),(10,1)] Tryz.underlying287 ae rfl (by simp [Value.oneCell']) (fun w=> by kernel_rfl)
def hQ (n m:Int):Int:=(if n < 0 then -(n+1) else n) % m
theorem pq (n m:Int) (h:0 < m):0≤hQ n m:=Int.emod_nonneg _ ab
theorem pA (n m:Int) (h:0 < m):hQ n m < m:=Int.emod_lt_of_pos _ h
theorem jD (n m:Int) (hm:1≤m) (h1:m≤4611686018427387904) (h2: -9223372036854775808≤n) (h3:n≤9223372036854775807):
  Spec Tryz.prog 33 (bj [.v (.int .i64 n), .v (.int .i64 m)] []) (aX (.v (.int .i64 (hQ n m))) []):=by
 refine Spec.ofN Tryz.func33 rfl Tryz.ntmps33 rfl ?_
 refine am (aZ rfl (aj (aq (am (aQ rfl (ai (bq _ _ rfl rfl rfl) (aj (aU rfl (fun hc6=> ?_) (fun hc6=> ?_)))))))))
 ·skip
  refine an (aQ rfl (ai (bc _ _ rfl rfl (bp ab)) ?_))
  refine ai (sA _ rfl (bp ab)) ?_
  refine aZ rfl (aj (am (aQ rfl (aQ rfl (ai (cZ _ _ rfl rfl ab (Int.tmod_eq_emod_of_nonneg ab)) ?_)))))
  refine aZ rfl (aj (aC (aY (.inr rfl) rfl (.tmp (rfl:_=AV.v (.int _ _))) (Le.out [] [] (ci ?_) rfl rfl rfl trivial trivial))))
  unfold hQ
  rw [if_pos hc6]
 ·skip
  refine aH (am (aQ rfl (aQ rfl (ai (cZ _ _ rfl rfl ab (Int.tmod_eq_emod_of_nonneg ab)) ?_))))
  refine aZ rfl (aj (aC (aY (.inr rfl) rfl (.tmp (rfl:_=AV.v (.int _ _))) (Le.out [] [] (ci ?_) rfl rfl rfl trivial trivial))))
  unfold hQ
  rw [if_neg ab]

theorem vf (n m:Nat) (xs ys:List Int) (hn:xs.length=n) (hm:ys.length=m) (h1:n≤4611686018427387904) (h2:m≤4611686018427387904):
  Spec Tryz.prog 30 (bj [.sl n (dk xs), .sl m (dk ys)] []) (aX (.v (.bool (decide (xs=ys)))) []):=by
 subst hn;subst hm
 refine Spec.ofN Tryz.func30 rfl Tryz.ntmps30 rfl ?_
 refine am (cm rfl (aj (aq (am (eN rfl (ai (bF _ aa rfl) (eN rfl (ai (bF _ aa rfl) (ai (bX _ _ rfl rfl rfl) (aj ?_))))))))))
 refine aU rfl (fun hc10=> ?_) (fun hc10=> ?_)
 ·skip
  refine am (cm rfl (aj (aC (aY (.inr rfl) rfl (.tmp (rfl:_=AV.v (.bool _))) (Le.out [] [] (gz ?_) rfl rfl rfl trivial trivial)))))
  exact decide_eq_false fun h=> by subst h;omega
 ·skip
  refine aH (aG fun K5 hK5=> ?_)
  refine am (aZ rfl (aj (au ?_)))
  refine bB (α:=Nat) (fun k=> k≤xs.length∧xs.length=ys.length∧xs.take k=ys.take k) 26 [(0,_),(1,_)] [] (fun k=> [(5, .v (.int .i64 (k:Int)))]) (fun k=> []) [] [] (fun k=> xs.length - k) 0 ?_ (by
   refine Le.mkJ [] [] rfl ?_ ?_ trivial trivial ?_
   ·exact ⟨(by exact iS rfl),(by exact iS rfl),(ci ag),trivial⟩
   ·exact trivial
   ·kernel_rfl) ?_
  ·exact ⟨by omega,by omega,rfl⟩
  intro k hk
  obtain ⟨hk,hl,ht⟩:=hk
  refine aG fun K7 hK7=> ?_
  refine am (aQ rfl (eN rfl (ai (bF _ aa rfl) (ai (bq _ _ rfl rfl rfl) (aj (aU rfl (fun hc14=> ?_) (fun hc14=> ?_)))))))
  ·skip
   have hkx:k < xs.length:=by omega
   have hky:k < ys.length:=by omega
   refine bu (hK7 _ ?_)
   clear hK7;try clear K7
   refine aq (au (aq ?_))
   refine aN (σ':=aB 26 [(0,_),(1,_),(5,_)] [] [] []) (by
    refine Le.mkJ [] [] rfl ?_ ?_ trivial trivial ?_
    ·exact ⟨(by exact iS rfl),(by exact iS rfl),(iV rfl),trivial⟩
    ·exact trivial
    ·kernel_rfl) ?_
   refine bG 9 [17,18,19,20,21,22,23,24,25] [] ae ae rfl (aL rfl) (rfl:_=[_,_,_,_,_,_,_,_,_]) (rfl:_=[]) ?_
   refine ap (_,[]) (fun τ=> aE _ (rfl:_=AV.sl _ _)) ?_
   refine eK rfl ?_
   refine ap (_,[]) (fun τ=> aE _ (rfl:_=AV.v (.int _ _))) ?_
   refine eJ rfl ?_
   refine ap (_,[]) (fun τ=> bf _ _ aa rfl rfl _ rfl ab (by (simp only [ba,bn,bm];omega)) (by exact Nat.mul_one _)) ?_
   refine eI rfl ?_
   refine ap (_,[]) (fun τ=> bC _ aa rfl (by exact dC _ _ ab) rfl) ?_
   refine eO rfl ?_
   refine ap (_,[]) (fun τ=> aE _ (rfl:_=AV.sl _ _)) ?_
   refine fa rfl ?_
   refine ap (_,[]) (fun τ=> aE _ (rfl:_=AV.v (.int _ _))) ?_
   refine fC rfl ?_
   refine ap (_,[]) (fun τ=> bf _ _ aa rfl rfl _ rfl ab (by (simp only [ba,bn,bm];omega)) (by exact Nat.mul_one _)) ?_
   refine gv rfl ?_
   refine ap (_,[]) (fun τ=> bC _ aa rfl (by exact dC _ _ ab) rfl) ?_
   refine jI rfl ?_
   refine ap (_,[]) (fun τ=> bX _ _ rfl rfl rfl) ?_
   refine jQ rfl (bh ⟨rfl,?_⟩)
   refine aj (aU rfl (fun hc25=> ?_) (fun hc25=> ?_))
   ·skip
    refine am (cm rfl (aj (aC (aY (.inr rfl) rfl (.tmp (rfl:_=AV.v (.bool _))) (Le.out [] [] (gz ?_) rfl rfl rfl trivial trivial)))))
    exact decide_eq_false fun h=> by subst h;exact hc25 rfl
   ·skip
    refine ce (an (aQ rfl (ai (bc _ _ rfl rfl (bp ab)) ?_)))
    refine aZ rfl (az (⟨k+1,?_,?_,?_⟩))
    ·refine ⟨by omega,hl,?_⟩
     rw [pW _ _ _ hkx,pW _ _ _ hky] at hc25
     rw [List.take_succ_eq_append_getElem hkx,List.take_succ_eq_append_getElem hky,ht,hc25]
    ·skip
     refine Le.mkJ [] [] rfl ?_ ?_ trivial trivial ?_
     ·exact ⟨(by exact iS rfl),(by exact iS rfl),(ci ag),trivial⟩
     ·exact trivial
     ·kernel_rfl
    ·omega
  ·skip
   refine bK (id (hK5 _ ?_))
   clear hK5;try clear K5
   refine am (cm rfl (aj (aC (aY (.inr rfl) rfl (.tmp (rfl:_=AV.v (.bool _))) (Le.out [] [] (gz ?_) rfl rfl rfl trivial trivial)))))
   rw [List.take_of_length_le ab,List.take_of_length_le ab] at ht
   exact decide_eq_true ht

theorem mE (b:UInt8):Spec Tryz.prog 221 (bj [.v (.int .u8 (b.toNat:Int))] []) (aX (.v (.bool (lx b))) []):=by
 have h:=yA b
 refine Spec.ofN Tryz.func221 rfl Tryz.ntmps221 rfl ?_
 refine am (cm rfl (aj (am (aQ rfl (ai (eD _ _ rfl rfl rfl) (cL rfl (dn (fun hg5=> ?_) (fun hg5=> ?_))))))))
 ·skip
  have h:lx b=decide ((b.toNat:Int)≤122):=by rw [Bool.eq_iff_iff,h];simp [hg5]
  refine ax rfl rfl (aE _ (rfl:_=AV.v (.int _ _))) (ax rfl rfl (bM _ _ rfl rfl rfl) (ai (aD _ _ _ rfl (rfl:_=AV.v (.bool _))) (cm rfl (aj (aC (aY (.inr rfl) rfl (.tmp (rfl:_=AV.v (.bool _))) (Le.out [] [] (gz ?_) rfl rfl rfl trivial trivial)))))))
  exact h
 ·skip
  have h:lx b=false:=Cq h (fun x=> by omega)
  refine aR rfl rfl ah ?_
  refine aR rfl rfl ah ?_
  refine ai (aD _ _ _ rfl (rfl:_=AV.v (.bool _))) (cm rfl (aj (aC (aY (.inr rfl) rfl (.tmp (rfl:_=AV.v (.bool _))) (Le.out [] [] (gz ?_) rfl rfl rfl trivial trivial)))))
  exact h
theorem kP (b:UInt8):Spec Tryz.prog 222 (bj [.v (.int .u8 (b.toNat:Int))] []) (aX (.v (.bool (fI b))) []):=by
 have h:=rl b
 refine Spec.ofN Tryz.func222 rfl Tryz.ntmps222 rfl ?_
 refine am (cm rfl (aj (am (aQ rfl (ai (eD _ _ rfl rfl rfl) (cL rfl (dn (fun hg5=> ?_) (fun hg5=> ?_))))))))
 ·skip
  have h:fI b=decide ((b.toNat:Int)≤57):=by rw [Bool.eq_iff_iff,h];simp [hg5]
  refine ax rfl rfl (aE _ (rfl:_=AV.v (.int _ _))) (ax rfl rfl (bM _ _ rfl rfl rfl) (ai (aD _ _ _ rfl (rfl:_=AV.v (.bool _))) (cm rfl (aj (aC (aY (.inr rfl) rfl (.tmp (rfl:_=AV.v (.bool _))) (Le.out [] [] (gz ?_) rfl rfl rfl trivial trivial)))))))
  exact h
 ·skip
  have h:fI b=false:=Cq h (fun x=> by omega)
  refine aR rfl rfl ah ?_
  refine aR rfl rfl ah ?_
  refine ai (aD _ _ _ rfl (rfl:_=AV.v (.bool _))) (cm rfl (aj (aC (aY (.inr rfl) rfl (.tmp (rfl:_=AV.v (.bool _))) (Le.out [] [] (gz ?_) rfl rfl rfl trivial trivial)))))
  exact h
theorem nz (l:List Tx) (n:Nat) (hn:l.length=n) (h1:n≤1000) (t:Tx):Spec Tryz.prog 224 (bj [.sl n (dT l), .v (bt t)] []) (aX (.v (.bool (decide (t∈l)))) []):=by
 refine Spec.ofN Tryz.func224 rfl Tryz.ntmps224 rfl ?_
 refine am (cm rfl (aj (aG fun K2 hK2=> ?_)))
 refine am (aZ rfl (aj (au ?_)))
 refine bB (α:=Nat) (fun k=> k≤n∧t∉l.take k) 18 [(0,_),(1,_)] [] (fun k=> [(5, .v (.int .i64 (k:Int)))]) (fun k=> []) [] [] (fun k=> n - k) 0 ?_ (by
  refine Le.mkJ [] [] rfl ?_ ?_ trivial trivial ?_
  ·exact ⟨(iS rfl),(iV rfl),(ci ag),trivial⟩
  ·exact trivial
  ·kernel_rfl) ?_
 ·exact ⟨Nat.zero_le _,by simp⟩
 intro k hk
 obtain ⟨hk,hnt⟩:=hk
 refine aG fun K4 hK4=> ?_
 refine am (aQ rfl (eN rfl (ai (bF _ aa rfl) (ai (bq _ _ rfl rfl rfl) (aj (aU rfl (fun hc9=> ?_) (fun hc9=> ?_)))))))
 ·skip
  refine bu (hK4 _ ?_)
  clear hK4;try clear K4
  refine aq (au (am (eN rfl (aQ rfl (ai (bf _ _ aa rfl rfl _ rfl ab (by (simp only [ba,bn,bm,bz];omega)) (by exact Nat.mul_one _)) ?_)))))
  refine ai (bC _ aa rfl (by exact fy _ _ ab) rfl) ?_
  refine dK rfl (ai (aV _ _ Tryz.underlying9 rfl rfl rfl) (aj (aU rfl (fun hc17=> ?_) (fun hc17=> ?_))))
  ·skip
   refine am (cm rfl (aj (aC (aY (.inr rfl) rfl (.tmp (rfl:_=AV.v (.bool _))) (Le.out [] [] (gz ?_) rfl rfl rfl trivial trivial)))))
   exact decide_eq_true (hc17 ▸ iy ab)
  ·skip
   refine ce (an (aQ rfl (ai (bc _ _ rfl rfl (bp ab)) ?_)))
   refine aZ rfl (az (⟨k+1,?_,?_,?_⟩))
   ·exact ⟨by omega,jr hnt ab hc17⟩
   ·skip
    refine Le.mkJ [] [] rfl ?_ ?_ trivial trivial ?_
    ·exact ⟨(iS rfl),(iV rfl),(ci ag),trivial⟩
    ·exact trivial
    ·kernel_rfl
   ·omega
 ·skip
  have hall:t∉l:=by rwa [List.take_of_length_le ab] at hnt
  refine bK (id (hK2 _ ?_))
  clear hK2;try clear K2
  refine am (cm rfl (aj (aC (aY (.inr rfl) rfl (.tmp (rfl:_=AV.v (.bool _))) (Le.out [] [] (gz ?_) rfl rfl rfl trivial trivial)))))
  exact decide_eq_false hall
theorem pH (s:Tx) (at_:Nat) (h1:s.length≤100000) (ha:at_≤s.length):Spec Tryz.prog 194 (bj [.v (bt s), .v (.int .i64 (at_:Int))] []) (aX (.v (.int .i64 (js s at_ false:Int))) []):=by
 refine Spec.ofN Tryz.func194 rfl Tryz.ntmps194 rfl ?_
 refine am (aZ rfl (aj (aG fun K2 hK2=> ?_)))
 refine au ?_
 refine bB (α:=Nat) (fun k=> k≤s.length∧js s k false=js s at_ false) 41 [(0,_)] [] (fun k=> [(1, .v (.int .i64 (k:Int)))]) (fun k=> []) [] [] (fun k=> s.length - k) at_ ?_ (by
  refine Le.mkJ [] [] rfl ?_ ?_ trivial trivial ?_
  ·exact ⟨(iV rfl),(ci ag),trivial⟩
  ·exact trivial
  ·kernel_rfl) ?_
 ·exact ⟨ha,rfl⟩
 intro k hk
 obtain ⟨hk,hs⟩:=hk
 refine aG fun K3 hK3=> ?_
 refine am (aQ rfl (dK rfl (ai (gl _ Tryz.underlying9 rfl) (ai (bq _ _ rfl rfl rfl) (aj (aU rfl (fun hc9=> ?_) (fun hc9=> ?_)))))))
 ·skip
  obtain ⟨b,hb⟩:=jf (s:=s) (a:=k) ab
  have hbi:=Ko b
  refine bu (hK3 _ ?_)
  clear hK3;try clear K3
  refine au (am (dK rfl (aQ rfl (ai (jA _ _ Tryz.underlying9 rfl rfl (by assumption)) ?_))))
  refine aZ rfl (aj (am (aQ rfl (ai (bP _ _ rfl rfl rfl) (aj (aU rfl (fun hc14=> ?_) (fun hc14=> ?_)))))))
  ·skip
   have hs:=(wJ hb ab).symm.trans hs
   refine au ?_
   refine bB (α:=Nat) (fun j=> k≤j∧j≤s.length∧js s j true=js s at_ false∧(j=k→j < s.length)) 41 [(0,_)] [] (fun j=> [(1, .v (.int .i64 (j:Int)))]) (fun j=> []) [] [] (fun j=> s.length - j) k ?_ (by
    refine Le.mkJ [] [] rfl ?_ ?_ trivial trivial ?_
    ·exact ⟨(iV rfl),(ci ag),trivial⟩
    ·exact trivial
    ·kernel_rfl) ?_
   ·exact ⟨Nat.le_refl _,by omega,hs,fun _=> by omega⟩
   intro j hj
   obtain ⟨hj1,hj2,hsj,hjk⟩:=hj
   refine aG fun K7 hK7=> ?_
   refine aG fun K8 hK8=> ?_
   refine an (aQ rfl (dK rfl (ai (gl _ Tryz.underlying9 rfl) (ai (bq _ _ rfl rfl rfl) (cL rfl (dn (fun hg19=> ?_) (fun hg19=> ?_)))))))
   ·skip
    obtain ⟨u,hu⟩:=jf (s:=s) (a:=j) ab
    have hui:=Ko u
    refine ax rfl rfl (aE _ (rfl:_=AV.v (.string _))) (ax rfl rfl (aE _ (rfl:_=AV.v (.int _ _))) (ax rfl rfl (jA _ _ Tryz.underlying9 rfl rfl (by assumption)) ?_))
    refine ax rfl rfl (bX _ _ rfl rfl rfl) (ai (aD _ _ _ rfl (rfl:_=AV.v (.bool _))) (az (hK8 _ ?_)))
    clear hK8;try clear K8
    refine aU rfl (fun hc24=> ?_) (fun hc24=> ?_)
    ·skip
     refine bu (hK7 _ ?_)
     clear hK7;try clear K7
     refine au (an (aQ rfl (ai (bc _ _ rfl rfl (bp ab)) ?_)))
     refine aZ rfl (az (⟨j+1,?_,?_,?_⟩))
     ·exact ⟨by omega,by omega,(Cu hu ab).symm.trans hsj,fun _=> by omega⟩
     ·skip
      refine Le.mkJ [] [] rfl ?_ ?_ trivial trivial ?_
      ·exact ⟨(iV rfl),(ci ag),trivial⟩
      ·exact trivial
      ·kernel_rfl
     ·omega
    ·skip
     have hjs:js s j false=js s at_ false:=by rw [← hsj,DW hu ab]
     have hjk':k < j:=Nat.lt_of_le_of_ne hj1 fun e=> by subst e;rw [hb] at hu;obtain rfl:=Option.some.inj hu;omega
     refine bK (id (⟨j,?_,?_,?_⟩))
     ·exact ⟨hj2,hjs⟩
     ·skip
      refine Le.mkJ [] [] rfl ?_ ?_ trivial trivial ?_
      ·exact ⟨(iV rfl),(ci ag),trivial⟩
      ·exact trivial
      ·kernel_rfl
     ·omega
   ·skip
    have hjs:js s j false=js s at_ false:=by rw [← hsj,qb ab,qb ab]
    have hjk':k < j:=Nat.lt_of_le_of_ne hj1 fun e=> by have:=hjk e.symm;omega
    refine aR rfl rfl ah ?_
    refine aR rfl rfl ah ?_
    refine aR rfl rfl ah ?_
    refine aR rfl rfl ah ?_
    refine ai (aD _ _ _ rfl (rfl:_=AV.v (.bool _))) (az (hK8 _ ?_))
    clear hK8;try clear K8
    refine aP rfl rfl (bK (id (⟨j,?_,?_,?_⟩)))
    ·exact ⟨hj2,hjs⟩
    ·skip
     refine Le.mkJ [] [] rfl ?_ ?_ trivial trivial ?_
     ·exact ⟨(iV rfl),(ci ag),trivial⟩
     ·exact trivial
     ·kernel_rfl
    ·omega
  ·skip
   refine am (aQ rfl (ai (bP _ _ rfl rfl rfl) (cL rfl (dn (fun hg29=> ?_) (fun hg29=> ?_)))))
   ·skip
    have hs2:js s (k+1) false=js s at_ false:=(sE hb ab ab).symm.trans hs
    refine aR rfl rfl ah ?_
    refine aR rfl rfl ah ?_
    refine ai (aD _ _ _ rfl (rfl:_=AV.v (.bool _))) (cL rfl (aR rfl rfl ah ?_))
    refine aR rfl rfl ah ?_
    refine ai (aD _ _ _ rfl (rfl:_=AV.v (.bool _))) (aj (bD rfl rfl ?_))
    refine aN (σ':=aB 41 [(0,_),(1,_)] [] [] []) kp ?_
    refine an (aQ rfl (ai (bc _ _ rfl rfl (bp ab)) ?_))
    refine aZ rfl (az (⟨k+1,?_,?_,?_⟩))
    ·exact ⟨by omega,hs2⟩
    ·skip
     refine Le.mkJ [] [] rfl ?_ ?_ trivial trivial ?_
     ·exact ⟨(iV rfl),(ci ag),trivial⟩
     ·exact trivial
     ·kernel_rfl
    ·omega
   ·skip
    refine ax rfl rfl (aE _ (rfl:_=AV.v (.int _ _))) (ax rfl rfl (bP _ _ rfl rfl rfl) (ai (aD _ _ _ rfl (rfl:_=AV.v (.bool _))) (cL rfl (dn (fun hg33=> ?_) (fun hg33=> ?_)))))
    ·skip
     have hs2:js s (k+1) false=js s at_ false:=(sE hb ab ab).symm.trans hs
     refine aR rfl rfl ah ?_
     refine aR rfl rfl ah ?_
     refine ai (aD _ _ _ rfl (rfl:_=AV.v (.bool _))) (aj (bD rfl rfl ?_))
     refine aN (σ':=aB 41 [(0,_),(1,_)] [] [] []) kp ?_
     refine an (aQ rfl (ai (bc _ _ rfl rfl (bp ab)) ?_))
     refine aZ rfl (az (⟨k+1,?_,?_,?_⟩))
     ·exact ⟨by omega,hs2⟩
     ·skip
      refine Le.mkJ [] [] rfl ?_ ?_ trivial trivial ?_
      ·exact ⟨(iV rfl),(ci ag),trivial⟩
      ·exact trivial
      ·kernel_rfl
     ·omega
    ·skip
     refine ax rfl rfl (aE _ (rfl:_=AV.v (.int _ _))) (ax rfl rfl (bP _ _ rfl rfl rfl) (ai (aD _ _ _ rfl (rfl:_=AV.v (.bool _))) (aj (aU rfl (fun hc36=> ?_) (fun hc36=> ?_)))))
     ·skip
      have hs2:js s (k+1) false=js s at_ false:=(sE hb ab ab).symm.trans hs
      refine aN (σ':=aB 41 [(0,_),(1,_)] [] [] []) kp ?_
      refine an (aQ rfl (ai (bc _ _ rfl rfl (bp ab)) ?_))
      refine aZ rfl (az (⟨k+1,?_,?_,?_⟩))
      ·exact ⟨by omega,hs2⟩
      ·skip
       refine Le.mkJ [] [] rfl ?_ ?_ trivial trivial ?_
       ·exact ⟨(iV rfl),(ci ag),trivial⟩
       ·exact trivial
       ·kernel_rfl
      ·omega
     ·skip
      have hs3:=(Ap hb ab ab).symm.trans hs
      refine aq ?_
      refine aN (σ':=aB 41 [(1,_)] [] [] []) kp ?_
      refine an (aQ rfl (aZ rfl (aj (aC (aY (.inr rfl) rfl (.tmp (rfl:_=AV.v (.int _ _))) (Le.out [] [] (ci ?_) rfl rfl rfl trivial trivial))))))
      rw [hs3]
 ·skip
  refine bK (id (hK2 _ ?_))
  clear hK2;try clear K2
  refine am (aQ rfl (aZ rfl (aj (aC (aY (.inr rfl) rfl (.tmp (rfl:_=AV.v (.int _ _))) (Le.out [] [] (ci ?_) rfl rfl rfl trivial trivial))))))
  rw [← hs,qb ab]
theorem nK (s:Tx) (h1:s.length≤100000) (hd: ∀ b∈s,fI b=true) (hv:jw s≤2147483647):Spec Tryz.prog 223 (bj [.v (bt s)] []) (aX (.v (.int .i64 (jw s:Int))) []):=by
 have hvt:=fun i=> vK s i
 refine Spec.ofN Tryz.func223 rfl Tryz.ntmps223 rfl ?_
 refine am (aZ rfl (aj (am (aZ rfl (aj (aG fun K3 hK3=> ?_))))))
 refine am (aZ rfl (aj (au ?_)))
 refine bB (α:=Nat) (fun k=> k≤s.length) 22 [(0,_)] [] (fun k=> [(3, .v (.int .i64 (jw (s.take k):Int))),(4, .v (.int .i64 (k:Int)))]) (fun k=> []) [] [] (fun k=> s.length - k) 0 ?_ (by
  refine Le.mkJ [] [] rfl ?_ ?_ trivial trivial ?_
  ·exact ⟨(iV rfl),(ci ag),(ci ag),trivial⟩
  ·exact trivial
  ·kernel_rfl) ?_
 ·omega
 intro k hk
 refine aG fun K5 hK5=> ?_
 refine am (aQ rfl (dK rfl (ai (gl _ Tryz.underlying9 rfl) (ai (bq _ _ rfl rfl rfl) (aj (aU rfl (fun hc8=> ?_) (fun hc8=> ?_)))))))
 ·skip
  obtain ⟨b,hb⟩:=jf (s:=s) (a:=k) ab
  have hbi:=Ko b
  have hbd:=(rl b).1 (hd b (List.mem_of_getElem? hb))
  have hvs:=uM hb
  have hv0:=hvt k
  have hv1:=hvt (k+1)
  have hvi:(10:Int)*(jw (s.take k):Int)+(b.toNat:Int) - 48=(jw (s.take (k+1)):Int):=by omega
  refine bu (hK5 _ ?_)
  clear hK5;try clear K5
  refine aq (au (am (aQ rfl (ai (xH _ _ rfl rfl (bp ab)) ?_))))
  refine dK rfl (aQ rfl (ai (jA _ _ Tryz.underlying9 rfl rfl (by assumption)) ?_))
  refine ai (Bb _ Tryz.underlying5 Tryz.underlying3 rfl (bp ab)) ?_
  refine ai (bc _ _ rfl rfl (bp ab)) ?_
  refine ai (ca _ _ rfl rfl (bp ab)) ?_
  refine aZ rfl (aj (am (aQ rfl (ai (dt _ _ rfl rfl rfl) (aj (aP rfl (decide_eq_false ab) ?_))))))
  refine ce ?_
  refine aN (σ':=aB 22 [(0,_),(3,_),(4,_)] [] [] []) kp ?_
  refine an (aQ rfl (ai (bc _ _ rfl rfl (bp ab)) ?_))
  refine aZ rfl (az (⟨k+1,?_,?_,?_⟩))
  ·omega
  ·skip
   refine Le.mkJ [] [] rfl ?_ ?_ trivial trivial ?_
   ·exact ⟨(iV rfl),(ci ab),(ci ag),trivial⟩
   ·exact trivial
   ·kernel_rfl
  ·omega
 ·skip
  have he:s.take k=s:=List.take_of_length_le ab
  refine bK (id (hK3 _ ?_))
  clear hK3;try clear K3
  refine am (aQ rfl (aZ rfl (aj (aC (aY (.inr rfl) rfl (.tmp (rfl:_=AV.v (.int _ _))) (Le.out [] [] (ci ?_) rfl rfl rfl trivial trivial))))))
  rw [he]

theorem yM {p:UInt8→Bool} {c:UInt8}: ∀ {l:List UInt8},c∈l.takeWhile p→p c=true
 | [],h=> by simp at h
 | x::l,h=> by
  rw [List.takeWhile_cons] at h
  split at h
  ·rename_i hx
   rcases List.mem_cons.1 h with rfl | h
   ·exact hx
   ·exact yM h
  ·simp at h
def qM (c:UInt8):Bool:=lx c || fI c
theorem pd {s:Tx} {a:Nat} {b:UInt8} {t:Tk} (hb:s[a]? =some b) (h1:lx b=true) (h:oU (s.drop a) a=some t):jU qM s (a+1) - a≤10∧t=⟨1,a,(s.drop a).take (jU qM s (a+1) - a),0⟩:=by
 rw [qW hb]
 rw [fw hb,oU] at h
 simp only [h1,if_true] at h
 rw [show jU qM s (a+1) - a=(b::(s.drop (a+1)).takeWhile fun x=> lx x || fI x).length by unfold jU qM;rw [List.length_cons];omega]
 split at h
 ·cases h
 ·rename_i hl;exact ⟨by omega,(Option.some.inj h).symm⟩
theorem rG {s:Tx} {a:Nat} {b:UInt8} {t:Tk} (hb:s[a]? =some b) (h1:lx b=false) (h2:fI b=true) (h:oU (s.drop a) a=some t):
  (∀ c∈(s.drop a).take (jU fI s (a+1) - a),fI c=true)∧jw ((s.drop a).take (jU fI s (a+1) - a))≤2147483647∧t=⟨2,a,(s.drop a).take (jU fI s (a+1) - a),jw ((s.drop a).take (jU fI s (a+1) - a))⟩:=by
 rw [qW hb]
 rw [fw hb,oU] at h
 simp only [h1,h2,if_true] at h
 simp only [Bool.false_eq_true,if_false] at h
 split at h
 ·cases h
 ·rename_i hl
  refine ⟨fun c hc=> ?_,by omega,(Option.some.inj h).symm⟩
  rcases List.mem_cons.1 hc with rfl | hc
  ·exact h2
  ·exact yM hc
theorem rT {s:Tx} {a:Nat} {b:UInt8} {t:Tk} (hb:s[a]? =some b) (h1:lx b=false) (h2:fI b=false) (h:oU (s.drop a) a=some t):
  ((s.drop a).take 2∈AX∧t=⟨3,a,(s.drop a).take 2,0⟩)∨((s.drop a).take 2∉AX∧(s.drop a).take 1∈Ee∧t=⟨3,a,(s.drop a).take 1,0⟩):=by
 rw [fw hb,oU] at h
 simp only [h1,h2,Bool.false_eq_true,if_false] at h
 rw [fw hb]
 split at h
 ·rename_i hm;exact .inl ⟨hm,(Option.some.inj h).symm⟩
 ·rename_i hm
  split at h
  ·rename_i hs;exact .inr ⟨hm,hs,(Option.some.inj h).symm⟩
  ·cases h
theorem wc {s:Tx} {a:Nat} (h:a < s.length):(s.drop a).take (min (a+2) s.length - a)=(s.drop a).take 2:=by
 by_cases h2:a+2≤s.length
 ·congr 1;omega
 ·rw [List.take_of_length_le (by rw [List.length_drop];omega),List.take_of_length_le (by rw [List.length_drop];omega)]
theorem sW (s:Tx) (a:Nat) (h1:s.length≤100000) (ha:a < s.length) (t:Tk) (ht:oU (s.drop a) a=some t):
  Spec Tryz.prog 195 (bj [.v (bt s), .v (.int .i64 (a:Int))] []) (aX (.tup [.agg [.v (.int .i64 (t.k:Int)), .v (.int .i64 (t.a:Int)), .v (bt t.t), .v (.int .i64 (t.n:Int))], .v (.int .i64 0)]) []):=by
 obtain ⟨b,hb⟩:=jf ha
 have hwl:=qf (p:=qM) (s:=s) (a:=a+1) ab
 have hdl:=qf (p:=fI) (s:=s) (a:=a+1) ab
 refine Spec.ofN Tryz.func195 rfl Tryz.ntmps195 rfl ?_
 refine am (ai (ay (4,0) aa rfl rfl) (aZ rfl (aj (am (aQ rfl (ai (bc _ _ rfl rfl (bp ab)) ?_))))))
 refine aZ rfl (aj (aq (am (dK rfl (aQ rfl (ai (jA _ _ Tryz.underlying9 rfl rfl (by assumption)) ?_))))))
 refine ai (aK aa al (mE b) rfl rfl) ?_
 refine aj (aU rfl (fun hc15=> ?_) (fun hc15=> ?_))
 ·skip
  obtain ⟨htl,hte⟩:=pd hb hc15 ht
  refine aG fun K5 hK5=> ?_
  refine au ?_
  refine bB (α:=Nat) (fun e=> a+1≤e∧e≤s.length∧jU qM s e=jU qM s (a+1)) 101 [(0,_),(1,_),(4,_)] [((4,0),_)] (fun e=> [(6, .v (.int .i64 (e:Int)))]) (fun e=> []) [] [] (fun e=> s.length - e) (a+1) ?_ (by
   refine Le.mkJ [] [] rfl ?_ ?_ trivial trivial ?_
   ·exact ⟨(iV rfl),(iV rfl),(iP rfl),(ci ag),trivial⟩
   ·exact ⟨(cD rfl rfl rfl),trivial⟩
   ·kernel_rfl) ?_
  ·exact ⟨Nat.le_refl _,by omega,rfl⟩
  intro e he
  obtain ⟨he1,he2,het⟩:=he
  refine aG fun K6 hK6=> ?_
  refine aG fun K7 hK7=> ?_
  refine an (aQ rfl (dK rfl (ai (gl _ Tryz.underlying9 rfl) (ai (bq _ _ rfl rfl rfl) (cL rfl (dn (fun hg20=> ?_) (fun hg20=> ?_)))))))
  ·skip
   obtain ⟨u,hu⟩:=jf (s:=s) (a:=e) ab
   refine ax rfl rfl (aE _ (rfl:_=AV.v (.string _))) (ax rfl rfl (aE _ (rfl:_=AV.v (.int _ _))) (ax rfl rfl (jA _ _ Tryz.underlying9 rfl rfl (by assumption)) ?_))
   refine ax rfl rfl (aK aa al (mE u) rfl rfl) ?_
   refine ax rfl rfl (aE _ (rfl:_=AV.v (.bool _))) (dn (fun hg25=> ?_) (fun hg25=> ?_))
   ·skip
    have hnx:jU qM s (e+1)=jU qM s (a+1):=(qp hu (by unfold qM;rw [hg25];rfl)).symm.trans het
    refine aR rfl rfl ah ?_
    refine aR rfl rfl ah ?_
    refine aR rfl rfl ah ?_
    refine aR rfl rfl ah ?_
    refine ax rfl rfl (aD _ _ _ rfl (rfl:_=AV.v (.bool _))) (ai (aD _ _ _ rfl (rfl:_=AV.v (.bool _))) (az (hK7 _ ?_)))
    clear hK7;try clear K7
    refine bD rfl rfl (bu (hK6 _ ?_))
    clear hK6;try clear K6
    refine au ?_
    refine aN (σ':=aB 101 [(0,_),(1,_),(4,_),(6,_)] [((4,0),_)] [] []) kp ?_
    refine an (aQ rfl (ai (bc _ _ rfl rfl (bp ab)) ?_))
    refine aZ rfl (az (⟨e+1,?_,?_,?_⟩))
    ·exact ⟨by omega,by omega,hnx⟩
    ·skip
     refine Le.mkJ [] [] rfl ?_ ?_ trivial trivial ?_
     ·exact ⟨(iV rfl),(iV rfl),(iP rfl),(ci ag),trivial⟩
     ·exact ⟨(cD rfl rfl rfl),trivial⟩
     ·kernel_rfl
    ·omega
   ·skip
    refine ax rfl rfl (aE _ (rfl:_=AV.v (.string _))) (ax rfl rfl (aE _ (rfl:_=AV.v (.int _ _))) (ax rfl rfl (jA _ _ Tryz.underlying9 rfl rfl (by assumption)) ?_))
    refine ax rfl rfl (aK aa al (kP u) rfl rfl) ?_
    refine ax rfl rfl (aD _ _ _ rfl (rfl:_=AV.v (.bool _))) (ai (aD _ _ _ rfl (rfl:_=AV.v (.bool _))) (az (hK7 _ ?_)))
    clear hK7;try clear K7
    refine aU rfl (fun hc31=> ?_) (fun hc31=> ?_)
    ·skip
     have hnx:jU qM s (e+1)=jU qM s (a+1):=(qp hu (by unfold qM;rw [hg25,hc31];rfl)).symm.trans het
     refine bu (hK6 _ ?_)
     clear hK6;try clear K6
     refine au ?_
     refine aN (σ':=aB 101 [(0,_),(1,_),(4,_),(6,_)] [((4,0),_)] [] []) kp ?_
     refine an (aQ rfl (ai (bc _ _ rfl rfl (bp ab)) ?_))
     refine aZ rfl (az (⟨e+1,?_,?_,?_⟩))
     ·exact ⟨by omega,by omega,hnx⟩
     ·skip
      refine Le.mkJ [] [] rfl ?_ ?_ trivial trivial ?_
      ·exact ⟨(iV rfl),(iV rfl),(iP rfl),(ci ag),trivial⟩
      ·exact ⟨(cD rfl rfl rfl),trivial⟩
      ·kernel_rfl
     ·omega
    ·skip
     have hfin:e=jU qM s (a+1):=(xj hu (by unfold qM;rw [hg25,hc31];rfl)).symm.trans het
     refine bK (id (hK5 _ ?_))
     clear hK5;try clear K5
     refine aq (aq ?_)
     refine aN (σ':=aB 101 [(0,_),(1,_),(4,_),(6,_)] [((4,0),_)] [] []) kp ?_
     refine an (aQ rfl (aQ rfl (ai (ca _ _ rfl rfl (bp ab)) ?_)))
     refine ai (dt _ _ rfl rfl rfl) (aj (aP rfl (decide_eq_false ab) ?_))
     refine aH (am (aQ rfl (dK rfl (aQ rfl (aQ rfl (ai (kd _ _ _ Tryz.underlying9 rfl _ _ (.lit rfl rfl) (.lit rfl rfl) ab ab rfl) ?_))))))
     refine ai (aA _ aa rfl (by exact (rfl:_=some [_,_,_,_]))) ?_
     refine bQ rfl rfl rfl rfl rfl rfl (aZ rfl (aj (aC ?_)))
     subst hte;subst hfin
     exact lZ (.inr rfl) rfl (.cellA aa rfl rfl rfl) (.tmp (rfl:_=AV.v _)) (Le.out [] [] (.tup rfl lz) rfl rfl rfl trivial trivial)
  ·skip
   have hfin:e=jU qM s (a+1):=(tL ab).symm.trans het
   refine aR rfl rfl ah ?_
   refine aR rfl rfl ah ?_
   refine aR rfl rfl ah ?_
   refine aR rfl rfl ah ?_
   refine aR rfl rfl ah ?_
   refine mz rfl rfl (mz rfl rfl (mz rfl rfl (mz rfl rfl (aR rfl rfl ah ?_))))
   refine ai (aD _ _ _ rfl (rfl:_=AV.v (.bool _))) (az (hK7 _ ?_))
   clear hK7;try clear K7
   refine aP rfl rfl (bK (id (hK5 _ ?_)))
   clear hK5;try clear K5
   refine aq (aq ?_)
   refine aN (σ':=aB 101 [(0,_),(1,_),(4,_),(6,_)] [((4,0),_)] [] []) kp ?_
   refine an (aQ rfl (aQ rfl (ai (ca _ _ rfl rfl (bp ab)) ?_)))
   refine ai (dt _ _ rfl rfl rfl) (aj (aP rfl (decide_eq_false ab) ?_))
   refine aH (am (aQ rfl (dK rfl (aQ rfl (aQ rfl (ai (kd _ _ _ Tryz.underlying9 rfl _ _ (.lit rfl rfl) (.lit rfl rfl) ab ab rfl) ?_))))))
   refine ai (aA _ aa rfl (by exact (rfl:_=some [_,_,_,_]))) ?_
   refine bQ rfl rfl rfl rfl rfl rfl (aZ rfl (aj (aC ?_)))
   subst hte;subst hfin
   exact lZ (.inr rfl) rfl (.cellA aa rfl rfl rfl) (.tmp (rfl:_=AV.v _)) (Le.out [] [] (.tup rfl lz) rfl rfl rfl trivial trivial)
 ·skip
  have hlb:=hc15
  refine aH (aq (am (dK rfl (aQ rfl (ai (jA _ _ Tryz.underlying9 rfl rfl (by assumption)) ?_)))))
  refine ai (aK aa al (kP b) rfl rfl) ?_
  refine aj (aU rfl (fun hc48=> ?_) (fun hc48=> ?_))
  ·skip
   obtain ⟨htd,htv,hte⟩:=rG hb hlb hc48 ht
   refine aG fun K16 hK16=> ?_
   refine au ?_
   refine bB (α:=Nat) (fun e=> a+1≤e∧e≤s.length∧jU fI s e=jU fI s (a+1)) 101 [(0,_),(1,_),(4,_)] [((4,0),_)] (fun e=> [(6, .v (.int .i64 (e:Int)))]) (fun e=> []) [] [] (fun e=> s.length - e) (a+1) ?_ (by
    refine Le.mkJ [] [] rfl ?_ ?_ trivial trivial ?_
    ·exact ⟨(iV rfl),(iV rfl),(iP rfl),(ci ag),trivial⟩
    ·exact ⟨(cD rfl rfl rfl),trivial⟩
    ·kernel_rfl) ?_
   ·exact ⟨Nat.le_refl _,by omega,rfl⟩
   intro e he
   obtain ⟨he1,he2,het⟩:=he
   refine aG fun K17 hK17=> ?_
   refine aG fun K18 hK18=> ?_
   refine an (aQ rfl (dK rfl (ai (gl _ Tryz.underlying9 rfl) (ai (bq _ _ rfl rfl rfl) (cL rfl (dn (fun hg53=> ?_) (fun hg53=> ?_)))))))
   ·skip
    obtain ⟨u,hu⟩:=jf (s:=s) (a:=e) ab
    refine ax rfl rfl (aE _ (rfl:_=AV.v (.string _))) (ax rfl rfl (aE _ (rfl:_=AV.v (.int _ _))) (ax rfl rfl (jA _ _ Tryz.underlying9 rfl rfl (by assumption)) ?_))
    refine ax rfl rfl (aK aa al (kP u) rfl rfl) ?_
    refine ai (aD _ _ _ rfl (rfl:_=AV.v (.bool _))) (az (hK18 _ ?_))
    clear hK18;try clear K18
    refine aU rfl (fun hc58=> ?_) (fun hc58=> ?_)
    ·skip
     have hnx:jU fI s (e+1)=jU fI s (a+1):=(qp hu hc58).symm.trans het
     refine bu (hK17 _ ?_)
     clear hK17;try clear K17
     refine au (an (aQ rfl (ai (bc _ _ rfl rfl (bp ab)) ?_)))
     refine aZ rfl (az (⟨e+1,?_,?_,?_⟩))
     ·exact ⟨by omega,by omega,hnx⟩
     ·skip
      refine Le.mkJ [] [] rfl ?_ ?_ trivial trivial ?_
      ·exact ⟨(iV rfl),(iV rfl),(iP rfl),(ci ag),trivial⟩
      ·exact ⟨(cD rfl rfl rfl),trivial⟩
      ·kernel_rfl
     ·omega
    ·skip
     have hfin:e=jU fI s (a+1):=(xj hu hc58).symm.trans het
     refine bK (id (hK16 _ ?_))
     clear hK16;try clear K16
     refine am (dK rfl (aQ rfl (aQ rfl (ai (kd _ _ _ Tryz.underlying9 rfl _ _ (.lit rfl rfl) (.lit rfl rfl) ab ab rfl) ?_))))
     refine ai (aK aa al (nK ((s.drop a).take (e - a)) (by simp;omega) (by rw [hfin];exact htd) (by rw [hfin];exact htv)) rfl rfl) ?_
     refine aZ rfl (aj (aq (aq ?_)))
     refine aN (σ':=aB 101 [(0,_),(1,_),(4,_),(6,_),(7,_)] [((4,0),_)] [] []) kp ?_
     refine an (aQ rfl (ai (bq _ _ rfl rfl rfl) (aj (aP rfl (decide_eq_false ab) ?_))))
     refine aH (am (aQ rfl (dK rfl (aQ rfl (aQ rfl (ai (kd _ _ _ Tryz.underlying9 rfl _ _ (.lit rfl rfl) (.lit rfl rfl) ab ab rfl) ?_))))))
     refine aQ rfl (ai (aA _ aa rfl (by exact (rfl:_=some [_,_,_,_]))) ?_)
     refine bQ rfl rfl rfl rfl rfl rfl (aZ rfl (aj (aC ?_)))
     subst hte;subst hfin
     exact lZ (.inr rfl) rfl (.cellA aa rfl rfl rfl) (.tmp (rfl:_=AV.v _)) (Le.out [] [] (.tup rfl lz) rfl rfl rfl trivial trivial)
   ·skip
    have hfin:e=jU fI s (a+1):=(tL ab).symm.trans het
    refine aR rfl rfl ah ?_
    refine aR rfl rfl ah ?_
    refine aR rfl rfl ah ?_
    refine aR rfl rfl ah ?_
    refine ai (aD _ _ _ rfl (rfl:_=AV.v (.bool _))) (az (hK18 _ ?_))
    clear hK18;try clear K18
    refine aP rfl rfl (bK (id (hK16 _ ?_)))
    clear hK16;try clear K16
    refine am (dK rfl (aQ rfl (aQ rfl (ai (kd _ _ _ Tryz.underlying9 rfl _ _ (.lit rfl rfl) (.lit rfl rfl) ab ab rfl) ?_))))
    refine ai (aK aa al (nK ((s.drop a).take (e - a)) (by simp;omega) (by rw [hfin];exact htd) (by rw [hfin];exact htv)) rfl rfl) ?_
    refine aZ rfl (aj (aq (aq ?_)))
    refine aN (σ':=aB 101 [(0,_),(1,_),(4,_),(6,_),(7,_)] [((4,0),_)] [] []) kp ?_
    refine an (aQ rfl (ai (bq _ _ rfl rfl rfl) (aj (aP rfl (decide_eq_false ab) ?_))))
    refine aH (am (aQ rfl (dK rfl (aQ rfl (aQ rfl (ai (kd _ _ _ Tryz.underlying9 rfl _ _ (.lit rfl rfl) (.lit rfl rfl) ab ab rfl) ?_))))))
    refine aQ rfl (ai (aA _ aa rfl (by exact (rfl:_=some [_,_,_,_]))) ?_)
    refine bQ rfl rfl rfl rfl rfl rfl (aZ rfl (aj (aC ?_)))
    subst hte;subst hfin
    exact lZ (.inr rfl) rfl (.cellA aa rfl rfl rfl) (.tmp (rfl:_=AV.v _)) (Le.out [] [] (.tup rfl lz) rfl rfl rfl trivial trivial)
  ·skip
   have hsy:=rT hb hlb hc48 ht
   refine aH (am (dK rfl (aQ rfl (aQ rfl (ai (bc _ _ rfl rfl (bp ab)) ?_)))))
   refine dK rfl (ai (gl _ Tryz.underlying9 rfl) (ai (sK _ _ rfl rfl rfl) (ai (kd _ _ _ Tryz.underlying9 rfl a (min (a+2) s.length) (.lit rfl rfl) (.lit rfl ab) ab ab (wc ha)) ?_)))
   refine iY rfl (aj (aq (aq ?_)))
   refine aN (σ':=aB 101 [(0,_),(1,_),(4,_),(6,_),(8,_)] [((4,0),_)] [] []) kp ?_
   refine an (ai (aW _ _ aa rfl ag (by (simp <;> rfl)) ah rfl) ?_)
   refine dK rfl (ai (aK aa al (nz AX 6 rfl ab ((s.drop a).take 2)) rfl rfl) ?_)
   refine aj (aU rfl (fun hc86=> ?_) (fun hc86=> ?_))
   ·skip
    have hte:t=⟨3,a,(s.drop a).take 2,0⟩:=hsy.elim (·.2) fun h=> absurd hc86 h.1
    refine am (aQ rfl (dK rfl (ai (aA _ aa rfl (by exact (rfl:_=some [_,_,_,_]))) ?_)))
    refine bQ rfl rfl rfl rfl rfl rfl (aZ rfl (aj (aC ?_)))
    subst hte
    exact lZ (.inr rfl) rfl (.cellA aa rfl rfl rfl) (.tmp (rfl:_=AV.v _)) (Le.out [] [] (.tup rfl lz) rfl rfl rfl trivial trivial)
   ·skip
    obtain ⟨_,hs1,hte⟩:=hsy.resolve_left fun h=> hc86 h.1
    refine aH (am (dK rfl (aQ rfl (aQ rfl (ai (kd _ _ _ Tryz.underlying9 rfl a (a+1) (.lit rfl rfl) (.lit rfl rfl) ab ab (by rw [Nat.add_sub_cancel_left])) ?_)))))
    refine iY rfl (aj (aq (am (ai (aW _ _ aa rfl ag (by (simp <;> rfl)) ah rfl) ?_))))
    refine dK rfl (ai (aK aa al (nz Ee 16 rfl ab ((s.drop a).take 1)) rfl rfl) ?_)
    refine aj (bD rfl (decide_eq_true hs1) ?_)
    refine am (aQ rfl (dK rfl (ai (aA _ aa rfl (by exact (rfl:_=some [_,_,_,_]))) ?_)))
    refine bQ rfl rfl rfl rfl rfl rfl (aZ rfl (aj (aC ?_)))
    subst hte
    exact lZ (.inr rfl) rfl (.cellA aa rfl rfl rfl) (.tmp (rfl:_=AV.v _)) (Le.out [] [] (.tup rfl lz) rfl rfl rfl trivial trivial)
theorem kX {f:Nat} {s:Tx} {a:Nat} {l:List Tk} (h:lw (f+1) s a=some l):(s.length≤a∧l=[⟨0,s.length,[],0⟩])∨(a < s.length∧ ∃ t m,oU (s.drop a) a=some t∧lw f s (js s (a+t.t.length) false)=some m∧l=t::m):=by
 unfold lw at h
 split at h
 ·exact .inl ⟨by assumption,(Option.some.inj h).symm⟩
 ·split at h
  ·cases h
  ·split at h
   ·cases h
   ·rename_i t ht _ m hm
    exact .inr ⟨by omega,t,m,ht,hm,(Option.some.inj h).symm⟩
theorem rq {s:Tx} {a:Nat} {t:Tk} (ha:a < s.length) (h:oU (s.drop a) a=some t):0 < t.t.length∧a+t.t.length≤s.length:=by
 obtain ⟨b,hb⟩:=jf ha
 have key: ∀ k,0 < k→0 < ((s.drop a).take k).length∧a+((s.drop a).take k).length≤s.length:=fun k hk=> by rw [List.length_take,List.length_drop];omega
 cases h1:lx b with
 | true=> obtain ⟨_,rfl⟩:=pd hb h1 h;exact key _ (by have:=qf (p:=qM) (s:=s) (a:=a+1) ab;omega)
 | false=>
  cases h2:fI b with
  | true=> obtain ⟨_,_,rfl⟩:=rG hb h1 h2 h;exact key _ (by have:=qf (p:=fI) (s:=s) (a:=a+1) ab;omega)
  | false=>
   rcases rT hb h1 h2 h with ⟨_,rfl⟩ | ⟨_,_,rfl⟩
   ·exact key _ ab
   ·exact key _ ab
def CA (s:Tx) (l:List Tk) (z:Nat×List Tk):Prop:=z.1≤s.length∧z.2.length≤z.1∧ ∃ f m,lw f s z.1=some m∧l=z.2++m
theorem sj (s:Tx) (h1:s.length≤100000) (l:List Tk) (hl:zt s=some l):
  Spec Tryz.prog 159 (bj [.v (bt s)] []) (aX (.tup [.sl l.length (qv l), .v (.int .i64 0), .v (.int .i64 0)]) []):=by
 have hs0:=sY (s:=s) (a:=0) (Nat.zero_le _) false
 refine Spec.ofN Tryz.func159 rfl Tryz.ntmps159 rfl ?_
 refine am (ai (bH _ (rfl:_=AV.v (.slice _ _ _))) (aZ rfl (aZ rfl (aj (am (ai (oF (5,0) _ 225 4 rfl rfl) ?_))))))
 refine aj (am (dK rfl (ai (aK aa al (pH s 0 h1 (Nat.zero_le _)) rfl rfl) ?_)))
 refine aZ rfl (aj (aG fun K4 hK4=> ?_))
 refine au ?_
 refine bB (α:=Nat×List Tk) (fun z=> CA s l z) 42 [(0,_)] [] (fun z=> [(6, .v (.int .i64 (z.1:Int))),(5, .ref (5,0) 0 z.2.length)]) (fun z=> [((5,0), .row 225 4 (qv z.2))]) [] [] (fun z=> s.length - z.1) (js s 0 false,[]) ?_ (by
  refine Le.mkJ [] [] rfl ?_ ?_ trivial trivial ?_
  ·exact ⟨(iV rfl),(ci ag),(dh rfl ag),trivial⟩
  ·exact ⟨(gJ rfl rfl rfl ag),trivial⟩
  ·kernel_rfl) ?_
 ·exact ⟨hs0.2,Nat.zero_le _,s.length+1,l,by rw [← hl];unfold zt js;rw [List.drop_zero,Nat.zero_add],rfl⟩
 intro z hz
 obtain ⟨hz1,hz2,f,m,hf,hlm⟩:=hz
 obtain ⟨f,rfl⟩: ∃ g,f=g+1:=by cases f with | zero=> (simp [lw] at hf) | succ g=> exact ⟨g,rfl⟩
 refine aG fun K5 hK5=> ?_
 refine am (aQ rfl (dK rfl (ai (gl _ Tryz.underlying9 rfl) (ai (bq _ _ rfl rfl rfl) (aj (aU rfl (fun hc14=> ?_) (fun hc14=> ?_)))))))
 ·skip
  obtain ⟨_,t,m',ht,hm',hm⟩:=(kX hf).resolve_left fun h=> by omega
  obtain ⟨htl,hta⟩:=rq ab ht
  have hsk:=sY (s:=s) (a:=z.1+t.t.length) hta false
  have hlen:(z.2++[t]).length=z.2.length+1:=by simp
  refine bu (hK5 _ ?_)
  clear hK5;try clear K5
  refine au (am (dK rfl (aQ rfl (ai (aK aa al (sW s z.1 h1 ab t ht) rfl rfl) ?_))))
  refine ai (aE _ (rfl:_=AV.tup _)) (ai (dc _ rfl (rfl:_=some (AV.agg _))) (ai (dc _ rfl (rfl:_=some (AV.v (.int _ _)))) (ai (ay (7,0) aa rfl rfl) (bQ rfl rfl rfl rfl rfl rfl (aZ rfl (aj (aq (am (aQ rfl (ai (bX (r:=false) _ _ rfl rfl rfl) ?_))))))))))
  refine aj (aP rfl rfl (aH (aq ?_)))
  refine aN (σ':=aB 42 [(0,_),(5,_),(6,_),(7,_)] [((5,0),_),((7,0),_)] [] []) kp ?_
  refine an (gD rfl (ai (aS _ aa rfl rfl rfl rfl) (ai (aW _ _ aa rfl ag (by (simp <;> rfl)) ah rfl) ?_)))
  refine ai (dq (28,0) _ _ aa rfl rfl (bw _).symm (.sl rfl) ab rfl (rR _ _) hlen.symm) ?_
  refine eZ rfl (aj (an (dK rfl (aQ rfl (bE rfl rfl rfl (ai (aM _ aa rfl rfl (rfl:_=some (AV.v (.string _)))) (ai (gl _ Tryz.underlying9 rfl) (ai (bc _ _ rfl rfl (bp ab)) ?_))))))))
  refine ai (aK aa al (pH s (z.1+t.t.length) h1 hta) rfl rfl) ?_
  refine aZ rfl (az (⟨(js s (z.1+t.t.length) false,z.2++[t]),?_,?_,?_⟩))
  ·exact ⟨hsk.2,by simp only;omega,f,m',hm',by rw [hlm,hm];simp⟩
  ·skip
   refine Le.mkJ [((5,0),(28,0))] [] rfl ?_ ?_ trivial trivial ?_
   ·exact ⟨(by repeat' (exact Lv.v)),(ci ag),(dh rfl ag),trivial⟩
   ·exact ⟨(gJ rfl rfl rfl ag),trivial⟩
   ·kernel_rfl
  ·simp only;omega
 ·skip
  obtain ⟨_,hm⟩:=(kX hf).resolve_right fun h=> by omega
  have hlen:(z.2++[(⟨0,s.length,[],0⟩:Tk)]).length=z.2.length+1:=by simp
  rw [hm] at hlm;subst hlm
  refine bK (id (hK4 _ ?_))
  clear hK4;try clear K4
  refine am (gD rfl (dK rfl (ai (gl _ Tryz.underlying9 rfl) (ai (aA _ aa rfl (by exact (rfl:_=some [_,_,_,_]))) ?_))))
  refine ai (aW _ _ aa rfl ag (by (simp <;> rfl)) ah rfl) ?_
  refine ai (dq (41,0) _ _ aa rfl rfl (bw _).symm (.sl rfl) ab rfl (rR _ ⟨0,s.length,[],0⟩) hlen.symm) ?_
  exact eZ rfl (aZ rfl (aZ rfl (aj (aC (BR (.inr rfl) rfl (.tmp (rfl:_=AV.ref _ _ _)) (.tmp (rfl:_=AV.v _)) (.tmp (rfl:_=AV.v _)) (Le.out [] [(41,0)] (.tup rfl (aI (iq rfl rfl (bw _).symm rfl) lz)) rfl rfl rfl tr trivial))))))

theorem cB (l:List Tx) (n:Nat) (hn:l.length=n) (h1:n≤1000) (t:Tx):Spec Tryz.prog 199 (bj [.sl n (dT l), .v (bt t)] []) (aX (.v (.bool (decide (t∈l)))) []):=by
 refine Spec.ofN Tryz.func199 rfl Tryz.ntmps199 rfl ?_
 refine am (cm rfl (aj (aG fun K2 hK2=> ?_)))
 refine am (aZ rfl (aj (au ?_)))
 refine bB (α:=Nat) (fun k=> k≤n∧t∉l.take k) 18 [(0,_),(1,_)] [] (fun k=> [(5, .v (.int .i64 (k:Int)))]) (fun k=> []) [] [] (fun k=> n - k) 0 ?_ (by
  refine Le.mkJ [] [] rfl ?_ ?_ trivial trivial ?_
  ·exact ⟨(iS rfl),(iV rfl),(ci ag),trivial⟩
  ·exact trivial
  ·kernel_rfl) ?_
 ·exact ⟨Nat.zero_le _,by simp⟩
 intro k hk
 obtain ⟨hk,hnt⟩:=hk
 refine aG fun K4 hK4=> ?_
 refine am (aQ rfl (eN rfl (ai (bF _ aa rfl) (ai (bq _ _ rfl rfl rfl) (aj (aU rfl (fun hc9=> ?_) (fun hc9=> ?_)))))))
 ·skip
  refine bu (hK4 _ ?_)
  clear hK4;try clear K4
  refine aq (au (am (eN rfl (aQ rfl (ai (bf _ _ aa rfl rfl _ rfl ab (by (simp only [ba,bn,bm,bz,bw];omega)) (by exact Nat.mul_one _)) ?_)))))
  refine ai (bC _ aa rfl (by exact fy _ _ ab) rfl) ?_
  refine dK rfl (ai (aV _ _ Tryz.underlying9 rfl rfl rfl) (aj (aU rfl (fun hc17=> ?_) (fun hc17=> ?_))))
  ·skip
   refine am (cm rfl (aj (aC (aY (.inr rfl) rfl (.tmp (rfl:_=AV.v (.bool _))) (Le.out [] [] (gz ?_) rfl rfl rfl trivial trivial)))))
   exact decide_eq_true (hc17 ▸ iy ab)
  ·skip
   refine ce (an (aQ rfl (ai (bc _ _ rfl rfl (bp ab)) ?_)))
   refine aZ rfl (az (⟨k+1,?_,?_,?_⟩))
   ·exact ⟨by omega,jr hnt ab hc17⟩
   ·skip
    refine Le.mkJ [] [] rfl ?_ ?_ trivial trivial ?_
    ·exact ⟨(iS rfl),(iV rfl),(ci ag),trivial⟩
    ·exact trivial
    ·kernel_rfl
   ·omega
 ·skip
  have hall:t∉l:=by rwa [List.take_of_length_le ab] at hnt
  refine bK (id (hK2 _ ?_))
  clear hK2;try clear K2
  refine am (cm rfl (aj (aC (aY (.inr rfl) rfl (.tmp (rfl:_=AV.v (.bool _))) (Le.out [] [] (gz ?_) rfl rfl rfl trivial trivial)))))
  exact decide_eq_false hall
theorem eA:Spec Tryz.prog 205 (bj [] []) (aX (.sl 9 (dT bltT)) []):=by
 refine Spec.ofN Tryz.func205 rfl Tryz.ntmps205 rfl ?_
 refine am (ai (bH _ (rfl:_=AV.v (.slice _ _ _))) (aj (am (ai (aW _ _ aa rfl ag (by (simp <;> rfl)) ah rfl) ?_))))
 exact lf rfl (aj (aC (aY (.inr rfl) rfl (.tmp (rfl:_=AV.sl _ _)) (Le.out [] [] .sl rfl rfl rfl trivial trivial))))
theorem kK (t:Tx):Spec Tryz.prog 225 (bj [.v (bt t)] []) (aX (.v (.bool (tv t))) []):=by
 refine Spec.ofN Tryz.func225 rfl Tryz.ntmps225 rfl ?_
 refine am (cm rfl (aj (am (ai (aK aa (by repeat' (exact dL)) (eA) rfl rfl) ?_))))
 refine dK rfl (ai (aK aa al (cB bltT 9 rfl ab t) rfl rfl) ?_)
 refine cL rfl (dn (fun hg6=> ?_) (fun hg6=> ?_))
 ·skip
  refine aR rfl rfl ah ?_
  refine aR rfl rfl ah ?_
  refine aR rfl rfl ah ?_
  refine ai (aD _ _ _ rfl (rfl:_=AV.v (.bool _))) (cm rfl (aj (aC (aY (.inr rfl) rfl (.tmp (rfl:_=AV.v (.bool _))) (Le.out [] [] (gz ?_) rfl rfl rfl trivial trivial)))))
  unfold tv
  (rw [decide_eq_true hg6];rfl)
 ·skip
  refine ax rfl rfl (aW _ _ aa rfl ag (by (simp <;> rfl)) ah rfl) ?_
  refine ax rfl rfl (aE _ (rfl:_=AV.v (.string _))) (ax rfl rfl (aK aa al (cB OP 19 rfl ab t) rfl rfl) ?_)
  refine ai (aD _ _ _ rfl (rfl:_=AV.v (.bool _))) (cm rfl (aj (aC (aY (.inr rfl) rfl (.tmp (rfl:_=AV.v (.bool _))) (Le.out [] [] (gz ?_) rfl rfl rfl trivial trivial)))))
  unfold tv
  (rw [decide_eq_false hg6];rfl)
theorem dN {T:List Tk} {i:Nat} (h:i < T.length):bS T i < T.length:=by unfold bS;split <;> omega
abbrev dH (T:List Tk) (i:Nat) (N:List Tx):List (aF×Cells):=[((0,9), .box 222 [.sl T.length (qv T), .v (.int .i64 (i:Int)), .v (.int .i64 0), .v (.int .i64 0), .sl N.length (dT N)])]
theorem bU (T:List Tk) (i:Nat) (N:List Tx) (hi:i < T.length):
  Spec Tryz.prog 160 (be [.ptr (0,9) 0] (dH T i N)) (bg (.v (bt (cX T i).t)) (dH T i N) [(0,9)] [(0,9)]):=by
 refine Spec.ofNI Tryz.func160 rfl Tryz.ntmps160 rfl ?_
 refine am (iY rfl (aj (aq (bG 12 [3,4,5,6,7,8,9,10,11,12,13,2] [] ae ae rfl (aL rfl) (rfl:_=[_,_,_,_,_,_,_,_,_,_,_,_]) (rfl:_=[]) ?_))))
 refine ap (_,[]) (fun τ=> aE _ (rfl:_=AV.ptr _ _)) ?_
 refine eK rfl ?_
 refine ap (_,[]) (fun τ=> aT _ rfl rfl) ?_
 refine eJ rfl ?_
 refine ap (_,[]) (fun τ=> aJ _ aa rfl rfl rfl) ?_
 refine eI rfl ?_
 refine ap (_,[]) (fun τ=> aM _ aa rfl rfl (rfl:_=some (AV.sl _ _))) ?_
 refine eO rfl ?_
 refine ap (_,[]) (fun τ=> aE _ (rfl:_=AV.ptr _ _)) ?_
 refine fa rfl ?_
 refine ap (_,[]) (fun τ=> aT _ rfl rfl) ?_
 refine fC rfl ?_
 refine ap (_,[]) (fun τ=> aJ _ aa rfl rfl rfl) ?_
 refine gv rfl ?_
 refine ap (_,[]) (fun τ=> aM _ aa rfl rfl (rfl:_=some (AV.v (.int _ _)))) ?_
 refine jI rfl ?_
 refine ap (_,[]) (fun τ=> bf _ _ aa rfl rfl _ rfl ab (by (simp only [ba,bn,bm,bz,bw];omega)) ag) ?_
 refine jQ rfl ?_
 refine ap (_,[]) (fun τ=> cY _ aa rfl rfl) ?_
 refine fW rfl ?_
 refine ap (_,[]) (fun τ=> bC _ aa rfl (by exact lj _ _ ab) rfl) ?_
 refine gx rfl ?_
 refine ap (_,[]) (fun τ=> bH _ (rfl:_=AV.v (.string _))) ?_
 refine kA rfl (bh ⟨rfl,?_⟩)
 exact aj (aC (aY (.inr rfl) rfl (.tmp (rfl:_=AV.v _)) (Le.outI [] [] .v rfl rfl rfl trivial ob tr rfl)))
theorem dE (T:List Tk) (i:Nat) (N:List Tx) (hi:i < T.length):
  Spec Tryz.prog 197 (be [.ptr (0,9) 0] (dH T i N)) (bg (.v (.bool (dW T i))) (dH T i N) [(0,9)] [(0,9)]):=by
 refine Spec.ofNI Tryz.func197 rfl Tryz.ntmps197 rfl ?_
 refine am (cm rfl (aj (aq (bG 28 [3,4,5,6,7,8,9,10,11,12,13,14,15,16,17,18,19,20,21,22,23,24,25,26,27,28,29,2] [] ae ae rfl (aL rfl) (rfl:_=[_,_,_,_,_,_,_,_,_,_,_,_,_,_,_,_,_,_,_,_,_,_,_,_,_,_,_,_]) (rfl:_=[]) ?_))))
 refine ap (_,[]) (fun τ=> aE _ (rfl:_=AV.ptr _ _)) ?_
 refine eK rfl ?_
 refine ap (_,[]) (fun τ=> aT _ rfl rfl) ?_
 refine eJ rfl ?_
 refine ap (_,[]) (fun τ=> aJ _ aa rfl rfl rfl) ?_
 refine eI rfl ?_
 refine ap (_,[]) (fun τ=> aM _ aa rfl rfl (rfl:_=some (AV.sl _ _))) ?_
 refine eO rfl ?_
 refine ap (_,[]) (fun τ=> aE _ (rfl:_=AV.ptr _ _)) ?_
 refine fa rfl ?_
 refine ap (_,[]) (fun τ=> aT _ rfl rfl) ?_
 refine fC rfl ?_
 refine ap (_,[]) (fun τ=> aJ _ aa rfl rfl rfl) ?_
 refine gv rfl ?_
 refine ap (_,[]) (fun τ=> aM _ aa rfl rfl (rfl:_=some (AV.v (.int _ _)))) ?_
 refine jI rfl ?_
 refine ap (_,[]) (fun τ=> bf _ _ aa rfl rfl _ rfl ab (by (simp only [ba,bn,bm,bz,bw];omega)) ag) ?_
 refine jQ rfl ?_
 refine ap (_,[]) (fun τ=> cY _ aa rfl rfl) ?_
 refine fW rfl ?_
 refine ap (_,[]) (fun τ=> bC _ aa rfl (by exact ox _ _ ab) rfl) ?_
 refine gx rfl ?_
 refine ap (_,[]) (fun τ=> bP _ _ rfl rfl rfl) ?_
 refine kA rfl ?_
 refine ap (_,[]) (fun τ=> aE _ (rfl:_=AV.v (.bool _))) ?_
 refine kq (fun hg15=> ?_) (fun hg15=> ?_)
 ·skip
  have hr:dW T i= !tv (cX T i).t:=by unfold dW;rw [decide_eq_true ab];rfl
  refine kx rfl ?_
  refine bN (_,[]) rfl (fun τ=> rfl) (fun τ=> aE _ (rfl:_=AV.ptr _ _)) ?_
  refine mO rfl ?_
  refine bN (_,[]) rfl (fun τ=> rfl) (fun τ=> aT _ rfl rfl) ?_
  refine sd rfl ?_
  refine bN (_,[]) rfl (fun τ=> rfl) (fun τ=> aJ _ aa rfl rfl rfl) ?_
  refine so rfl ?_
  refine bN (_,[]) rfl (fun τ=> rfl) (fun τ=> aM _ aa rfl rfl (rfl:_=some (AV.sl _ _))) ?_
  refine sB rfl ?_
  refine bN (_,[]) rfl (fun τ=> rfl) (fun τ=> aE _ (rfl:_=AV.ptr _ _)) ?_
  refine yt rfl ?_
  refine bN (_,[]) rfl (fun τ=> rfl) (fun τ=> aT _ rfl rfl) ?_
  refine zh rfl ?_
  refine bN (_,[]) rfl (fun τ=> rfl) (fun τ=> aJ _ aa rfl rfl rfl) ?_
  refine BC rfl ?_
  refine bN (_,[]) rfl (fun τ=> rfl) (fun τ=> aM _ aa rfl rfl (rfl:_=some (AV.v (.int _ _)))) ?_
  refine AH rfl ?_
  refine bN (_,[]) rfl (fun τ=> rfl) (fun τ=> bf _ _ aa rfl rfl _ rfl ab (by (simp only [ba,bn,bm,bz,bw];omega)) ag) ?_
  refine Bx rfl ?_
  refine bN (_,[]) rfl (fun τ=> rfl) (fun τ=> cY _ aa rfl rfl) ?_
  refine zG rfl ?_
  refine bN (_,[]) rfl (fun τ=> rfl) (fun τ=> bC _ aa rfl (by exact lj _ _ ab) rfl) ?_
  refine zJ rfl ?_
  refine bN (_,[]) rfl (fun τ=> rfl) (fun τ=> (aK aa al (kK (cX T i).t) rfl rfl)) ?_
  refine zL rfl ?_
  refine bN (_,[]) rfl (fun τ=> rfl) (fun τ=> cR _ rfl rfl) ?_
  refine BG rfl ?_
  refine ap (_,[]) (fun τ=> aD _ _ _ rfl (rfl:_=AV.v (.bool _))) ?_
  refine Bq rfl ?_
  refine ap (_,[]) (fun τ=> bH _ (rfl:_=AV.v (.bool _))) ?_
  refine zP rfl (bh ⟨rfl,?_⟩)
  exact aj (aC (aY (.inr rfl) rfl (.tmp (rfl:_=AV.v (.bool _))) (Le.outI [] [] (gz hr) rfl rfl rfl trivial ob tr rfl)))
 ·skip
  have hr:dW T i=false:=by unfold dW;rw [decide_eq_false ab];rfl
  refine kx rfl ?_
  refine cH rfl (fun τ=> rfl) ah ?_
  refine mO rfl ?_
  refine cH rfl (fun τ=> rfl) ah ?_
  refine sd rfl ?_
  refine cH rfl (fun τ=> rfl) ah ?_
  refine so rfl ?_
  refine cH rfl (fun τ=> rfl) ah ?_
  refine sB rfl ?_
  refine cH rfl (fun τ=> rfl) ah ?_
  refine yt rfl ?_
  refine cH rfl (fun τ=> rfl) ah ?_
  refine zh rfl ?_
  refine cH rfl (fun τ=> rfl) ah ?_
  refine BC rfl ?_
  refine cH rfl (fun τ=> rfl) ah ?_
  refine AH rfl ?_
  refine cH rfl (fun τ=> rfl) ah ?_
  refine Bx rfl ?_
  refine cH rfl (fun τ=> rfl) ah ?_
  refine zG rfl ?_
  refine cH rfl (fun τ=> rfl) ah ?_
  refine zJ rfl ?_
  refine cH rfl (fun τ=> rfl) ah ?_
  refine zL rfl ?_
  refine cH rfl (fun τ=> rfl) ah ?_
  refine BG rfl ?_
  refine ap (_,[]) (fun τ=> aD _ _ _ rfl (rfl:_=AV.v (.bool _))) ?_
  refine Bq rfl ?_
  refine ap (_,[]) (fun τ=> bH _ (rfl:_=AV.v (.bool _))) ?_
  refine zP rfl (bh ⟨rfl,?_⟩)
  exact aj (aC (aY (.inr rfl) rfl (.tmp (rfl:_=AV.v (.bool _))) (Le.outI [] [] (gz hr) rfl rfl rfl trivial ob tr rfl)))
theorem cq (T:List Tk) (i:Nat) (N:List Tx) (hi:i < T.length) (hT:T.length≤100000):
  Spec Tryz.prog 196 (be [.ptr (0,9) 0] (dH T i N)) (bg (.tup []) (dH T (bS T i) N) [(0,9)] [(0,9)]):=by
 refine Spec.ofNI Tryz.func196 rfl Tryz.ntmps196 rfl ?_
 refine aq (bG 11 [2,3,4,5,6,7,8,9,10,11,12] [] ae ae rfl (aL rfl) (rfl:_=[_,_,_,_,_,_,_,_,_,_,_]) (rfl:_=[]) ?_)
 refine ap (_,[]) (fun τ=> aE _ (rfl:_=AV.ptr _ _)) ?_
 refine eK rfl ?_
 refine ap (_,[]) (fun τ=> aT _ rfl rfl) ?_
 refine eJ rfl ?_
 refine ap (_,[]) (fun τ=> aJ _ aa rfl rfl rfl) ?_
 refine eI rfl ?_
 refine ap (_,[]) (fun τ=> aM _ aa rfl rfl (rfl:_=some (AV.v (.int _ _)))) ?_
 refine eO rfl ?_
 refine ap (_,[]) (fun τ=> bc _ _ rfl rfl (bp ab)) ?_
 refine fa rfl ?_
 refine ap (_,[]) (fun τ=> aE _ (rfl:_=AV.ptr _ _)) ?_
 refine fC rfl ?_
 refine ap (_,[]) (fun τ=> aT _ rfl rfl) ?_
 refine gv rfl ?_
 refine ap (_,[]) (fun τ=> aJ _ aa rfl rfl rfl) ?_
 refine jI rfl ?_
 refine ap (_,[]) (fun τ=> aM _ aa rfl rfl (rfl:_=some (AV.sl _ _))) ?_
 refine jQ rfl ?_
 refine ap (_,[]) (fun τ=> bF _ aa rfl) ?_
 refine fW rfl ?_
 refine ap (_,[]) (fun τ=> bq _ _ rfl rfl rfl) ?_
 refine gx rfl (bh ⟨rfl,?_⟩)
 refine aj (aU rfl (fun hc12=> ?_) (fun hc12=> ?_))
 ·skip
  have ht:bS T i=i+1:=by unfold bS;rw [if_pos ab]
  refine an (bi rfl (ai (aT _ rfl rfl) (bE rfl rfl rfl (cK rfl rfl rfl (ai (bc _ _ rfl rfl (bp ab)) ?_)))))
  exact ai (aT _ rfl rfl) (bE rfl rfl rfl (bQ rfl rfl rfl rfl rfl rfl (az (eU (.inl rfl) rfl (Le.outI [] [] (.tup rfl bv) rfl rfl rfl trivial ⟨⟨rfl,⟨_,rfl, .box rfl (aI .sl (aI (ci (by rw [ht] <;> omega)) lz))⟩,rfl⟩,trivial⟩ tr rfl)))))
 ·skip
  have ht:bS T i=i:=by unfold bS;rw [if_neg ab]
  exact bu (eU (.inl rfl) rfl (Le.outI [] [] (.tup rfl bv) rfl rfl rfl trivial ⟨⟨rfl,⟨_,rfl, .box rfl (aI .sl (aI (ci (by rw [ht] <;> omega)) lz))⟩,rfl⟩,trivial⟩ tr rfl))
theorem eX (T:List Tk) (i j:Nat) (N:List Tx) (s:Tx) (hi:i < T.length) (hT:T.length≤100000) (h:fL T s i=some j):
  Spec Tryz.prog 162 (be [.ptr (0,9) 0, .v (bt s)] (dH T i N)) (bg (.tup []) (dH T j N) [(0,9)] [(0,9)]):=by
 have ⟨hs,hj⟩:(cX T i).t=s∧bS T i=j:=by
  unfold fL at h
  split at h
  ·exact ⟨by assumption,Option.some.inj h⟩
  ·cases h
 subst hs
 subst hj
 refine Spec.ofNI Tryz.func162 rfl Tryz.ntmps162 rfl ?_
 refine aq (am (bi rfl (ai (aT _ rfl rfl) (bE rfl rfl rfl (cK rfl rfl rfl (iX rfl rfl rfl (cL rfl (ax rfl rfl (aE _ (rfl:_=AV.ptr _ _)) (ax rfl rfl (br aa _ _ ar (bU T i N hi) tr rfl ae (by simp)) ?_)))))))))
 refine ax rfl rfl (aE _ (rfl:_=AV.v (.string _))) (ax rfl rfl (qt (r:=false) _ _ Tryz.underlying9 rfl rfl (by exact bne_self_eq_false _)) ?_)
 refine ai (aD _ _ _ rfl (rfl:_=AV.v (.bool _))) (aj (aP rfl rfl (aH (am (bi rfl (ai (aT _ rfl rfl) (bE rfl rfl rfl (cK rfl rfl rfl (iX rfl rfl rfl (aj ?_))))))))))
 refine bD rfl rfl ?_
 refine aN (σ':=aB 28 [(0,_)] [((0,9),_)] [(0,9)] [(0,9)]) kp ?_
 refine an (bi rfl (ai (aO (cq T i N hi hT)) ?_))
 exact az (eU (.inl rfl) rfl (Le.outI [] [] (.tup rfl bv) rfl rfl rfl trivial ob tr rfl))
theorem ji {T:List Tk} {s:Tx} {lv i j:Nat} (h:pw T s lv i=some j):lv≤20∧fL T s i=some j:=by
 unfold pw at h
 split at h
 ·cases h
 ·rename_i hn
  refine ⟨?_,h⟩
  unfold fL at h
  split at h
  ·rename_i ht
   exact Nat.le_of_not_lt fun hl=> hn ⟨ht,hl⟩
  ·cases h
theorem ij {T:List Tk} {s:Tx} {i j:Nat} (h:fL T s i=some j) (hi:i < T.length):j < T.length:=by
 unfold fL at h
 split at h
 ·rw [← Option.some.inj h];exact dN hi
 ·cases h
theorem ms (T:List Tk) (i j:Nat) (N:List Tx) (s:Tx) (lv:Nat) (hi:i < T.length) (hT:T.length≤100000) (h:pw T s lv i=some j):
  Spec Tryz.prog 201 (be [.ptr (0,9) 0, .v (bt s), .v (.int .i64 (lv:Int))] (dH T i N)) (bg (.tup []) (dH T j N) [(0,9)] [(0,9)]):=by
 obtain ⟨hl,he⟩:=ji h
 refine Spec.ofNI Tryz.func201 rfl Tryz.ntmps201 rfl ?_
 refine aq (am (bi rfl (ai (aT _ rfl rfl) (bE rfl rfl rfl (cK rfl rfl rfl (iX rfl rfl rfl (cL rfl (ax rfl rfl (aE _ (rfl:_=AV.ptr _ _)) (ax rfl rfl (br aa _ _ ar (bU T i N hi) tr rfl ae (by simp)) ?_)))))))))
 refine ax rfl rfl (aE _ (rfl:_=AV.v (.string _))) (ax rfl rfl (aV _ _ Tryz.underlying9 rfl rfl rfl) (ai (aD _ _ _ rfl (rfl:_=AV.v (.bool _))) (cL rfl (dn (fun hg17=> ?_) (fun hg17=> ?_)))))
 ·skip
  refine ax rfl rfl (aE _ (rfl:_=AV.v (.int _ _))) (ax rfl rfl (dt (r:=false) _ _ rfl rfl (decide_eq_false ab)) ?_)
  refine ai (aD _ _ _ rfl (rfl:_=AV.v (.bool _))) (aj (aP rfl rfl (aH ?_)))
  refine aN (σ':=aB 30 [(0,_),(1,_)] [((0,9),_)] [(0,9)] [(0,9)]) kp ?_
  refine an (bi rfl (dK rfl (ai (aO (eX T i j N s hi hT he)) ?_)))
  exact az (eU (.inl rfl) rfl (Le.outI [] [] (.tup rfl bv) rfl rfl rfl trivial ob tr rfl))
 ·skip
  refine aR rfl rfl ah ?_
  refine aR rfl rfl ah ?_
  refine ai (aD _ _ _ rfl (rfl:_=AV.v (.bool _))) (aj (aP rfl rfl (aH ?_)))
  refine aN (σ':=aB 30 [(0,_),(1,_)] [((0,9),_)] [(0,9)] [(0,9)]) kp ?_
  refine an (bi rfl (dK rfl (ai (aO (eX T i j N s hi hT he)) ?_)))
  exact az (eU (.inl rfl) rfl (Le.outI [] [] (.tup rfl bv) rfl rfl rfl trivial ob tr rfl))
theorem jZ (T:List Tk) (i:Nat) (N:List Tx) (most:Nat) (hi:i < T.length) (hT:T.length≤100000) (hm:most≤1000) (r:Nat×Nat) (h:mR T most i=some r):
  Spec Tryz.prog 200 (be [.ptr (0,9) 0, .v (.int .i64 (most:Int))] (dH T i N)) (bg (.v (.int .i64 (r.1:Int))) (dH T r.2 N) [(0,9)] [(0,9)]):=by
 have ⟨h1,h2,h3⟩:(cX T i).k=2∧(cX T i).n≤most∧r=((cX T i).n,bS T i):=by
  unfold mR at h
  split at h
  ·rename_i hx;exact ⟨hx.1,hx.2,(Option.some.inj h).symm⟩
  ·cases h
 subst h3
 refine Spec.ofNI Tryz.func200 rfl Tryz.ntmps200 rfl ?_
 refine am (aZ rfl (aj (aq (bG 11 [6,7,8,9,10,11,12,13,14,15,5] [(5,0)] ae ae rfl (aL rfl) (rfl:_=[_,_,_,_,_,_,_,_,_,_,_]) (rfl:_=[_]) ?_))))
 refine ap (_,[]) (fun τ=> aE _ (rfl:_=AV.ptr _ _)) ?_
 refine eK rfl ?_
 refine ap (_,[]) (fun τ=> aT _ rfl rfl) ?_
 refine eJ rfl ?_
 refine ap (_,[]) (fun τ=> aJ _ aa rfl rfl rfl) ?_
 refine eI rfl ?_
 refine ap (_,[]) (fun τ=> aM _ aa rfl rfl (rfl:_=some (AV.sl _ _))) ?_
 refine eO rfl ?_
 refine ap (_,[]) (fun τ=> aE _ (rfl:_=AV.ptr _ _)) ?_
 refine fa rfl ?_
 refine ap (_,[]) (fun τ=> aT _ rfl rfl) ?_
 refine fC rfl ?_
 refine ap (_,[]) (fun τ=> aJ _ aa rfl rfl rfl) ?_
 refine gv rfl ?_
 refine ap (_,[]) (fun τ=> aM _ aa rfl rfl (rfl:_=some (AV.v (.int _ _)))) ?_
 refine jI rfl ?_
 refine ap (_,[]) (fun τ=> bf _ _ aa rfl rfl _ rfl ab (by (simp only [ba,bn,bm,bz,bw];omega)) ag) ?_
 refine jQ rfl ?_
 refine ap (_,[]) (fun τ=> cg _ aa rfl (by exact lT _ _ hi) rfl) ?_
 refine fW rfl ?_
 refine ap (_,[((5,0),_)]) (fun τ=> ay (5,0) aa rfl rfl) ?_
 refine gx rfl (bh ⟨rfl,?_⟩)
 refine bQ rfl rfl rfl rfl rfl rfl (aj (aq (am (bE rfl rfl rfl (cK rfl rfl rfl (ai (bX _ _ rfl rfl rfl) (aj (aP rfl (by rw [h1];rfl) ?_))))))))
 refine aq ?_
 refine aN (σ':=aB 44 [(0,_),(1,_),(5,_)] [((0,9),_),((5,0),_)] [(0,9)] [(0,9)]) kp ?_
 refine an (bE rfl rfl rfl (cK rfl rfl rfl (aQ rfl (ai (dt _ _ rfl rfl rfl) (aj (aP rfl (decide_eq_false ab) ?_))))))
 refine aH (aq (am (bi rfl (ai (aT _ rfl rfl) (bE rfl rfl rfl (cK rfl rfl rfl (ai (bX (r:=false) _ _ rfl rfl rfl) (aj (aP rfl rfl (aH ?_))))))))))
 refine am (bi rfl (ai (aO (cq T i N hi hT)) ?_))
 exact aj (am (bE rfl rfl rfl (cK rfl rfl rfl (aZ rfl (aj (aC (aY (.inr rfl) rfl (.tmp (rfl:_=AV.v _)) (Le.outI [] [] .v rfl rfl rfl trivial ob tr rfl))))))))
abbrev Bf (T:List Tk) (i:Nat) (N:List Tx):List (aF×Cells):=[((0,9), .box 222 [.sl T.length (qv T), .v (.int .i64 (i:Int)), .v (.int .i64 0), .v (.int .i64 0), .ref (1,9) 0 N.length]),((1,9), .row 9 1 (dT N))]
theorem ep (T:List Tk) (i:Nat) (N:List Tx) (hi:i < T.length):
  Spec Tryz.prog 160 (be [.ptr (0,9) 0] (Bf T i N)) (bg (.v (bt (cX T i).t)) (Bf T i N) [(0,9),(1,9)] [(0,9),(1,9)]):=by
 refine Spec.ofNI Tryz.func160 rfl Tryz.ntmps160 rfl ?_
 refine am (iY rfl (aj (aq (bG 12 [3,4,5,6,7,8,9,10,11,12,13,2] [] ae ae rfl (aL rfl) (rfl:_=[_,_,_,_,_,_,_,_,_,_,_,_]) (rfl:_=[]) ?_))))
 refine ap (_,[]) (fun τ=> aE _ (rfl:_=AV.ptr _ _)) ?_
 refine eK rfl ?_
 refine ap (_,[]) (fun τ=> aT _ rfl rfl) ?_
 refine eJ rfl ?_
 refine ap (_,[]) (fun τ=> aJ _ aa rfl rfl rfl) ?_
 refine eI rfl ?_
 refine ap (_,[]) (fun τ=> aM _ aa rfl rfl (rfl:_=some (AV.sl _ _))) ?_
 refine eO rfl ?_
 refine ap (_,[]) (fun τ=> aE _ (rfl:_=AV.ptr _ _)) ?_
 refine fa rfl ?_
 refine ap (_,[]) (fun τ=> aT _ rfl rfl) ?_
 refine fC rfl ?_
 refine ap (_,[]) (fun τ=> aJ _ aa rfl rfl rfl) ?_
 refine gv rfl ?_
 refine ap (_,[]) (fun τ=> aM _ aa rfl rfl (rfl:_=some (AV.v (.int _ _)))) ?_
 refine jI rfl ?_
 refine ap (_,[]) (fun τ=> bf _ _ aa rfl rfl _ rfl ab (by (simp only [ba,bn,bm,bz,bw];omega)) ag) ?_
 refine jQ rfl ?_
 refine ap (_,[]) (fun τ=> cY _ aa rfl rfl) ?_
 refine fW rfl ?_
 refine ap (_,[]) (fun τ=> bC _ aa rfl (by exact lj _ _ ab) rfl) ?_
 refine gx rfl ?_
 refine ap (_,[]) (fun τ=> bH _ (rfl:_=AV.v (.string _))) ?_
 refine kA rfl (bh ⟨rfl,?_⟩)
 exact aj (aC (aY (.inr rfl) rfl (.tmp (rfl:_=AV.v _)) (Le.outI [] [] .v rfl rfl rfl trivial ob tr rfl)))
theorem sN (T:List Tk) (i:Nat) (N:List Tx) (hi:i < T.length):
  Spec Tryz.prog 197 (be [.ptr (0,9) 0] (Bf T i N)) (bg (.v (.bool (dW T i))) (Bf T i N) [(0,9),(1,9)] [(0,9),(1,9)]):=by
 refine Spec.ofNI Tryz.func197 rfl Tryz.ntmps197 rfl ?_
 refine am (cm rfl (aj (aq (bG 28 [3,4,5,6,7,8,9,10,11,12,13,14,15,16,17,18,19,20,21,22,23,24,25,26,27,28,29,2] [] ae ae rfl (aL rfl) (rfl:_=[_,_,_,_,_,_,_,_,_,_,_,_,_,_,_,_,_,_,_,_,_,_,_,_,_,_,_,_]) (rfl:_=[]) ?_))))
 refine ap (_,[]) (fun τ=> aE _ (rfl:_=AV.ptr _ _)) ?_
 refine eK rfl ?_
 refine ap (_,[]) (fun τ=> aT _ rfl rfl) ?_
 refine eJ rfl ?_
 refine ap (_,[]) (fun τ=> aJ _ aa rfl rfl rfl) ?_
 refine eI rfl ?_
 refine ap (_,[]) (fun τ=> aM _ aa rfl rfl (rfl:_=some (AV.sl _ _))) ?_
 refine eO rfl ?_
 refine ap (_,[]) (fun τ=> aE _ (rfl:_=AV.ptr _ _)) ?_
 refine fa rfl ?_
 refine ap (_,[]) (fun τ=> aT _ rfl rfl) ?_
 refine fC rfl ?_
 refine ap (_,[]) (fun τ=> aJ _ aa rfl rfl rfl) ?_
 refine gv rfl ?_
 refine ap (_,[]) (fun τ=> aM _ aa rfl rfl (rfl:_=some (AV.v (.int _ _)))) ?_
 refine jI rfl ?_
 refine ap (_,[]) (fun τ=> bf _ _ aa rfl rfl _ rfl ab (by (simp only [ba,bn,bm,bz,bw];omega)) ag) ?_
 refine jQ rfl ?_
 refine ap (_,[]) (fun τ=> cY _ aa rfl rfl) ?_
 refine fW rfl ?_
 refine ap (_,[]) (fun τ=> bC _ aa rfl (by exact ox _ _ ab) rfl) ?_
 refine gx rfl ?_
 refine ap (_,[]) (fun τ=> bP _ _ rfl rfl rfl) ?_
 refine kA rfl ?_
 refine ap (_,[]) (fun τ=> aE _ (rfl:_=AV.v (.bool _))) ?_
 refine kq (fun hg15=> ?_) (fun hg15=> ?_)
 ·skip
  have hr:dW T i= !tv (cX T i).t:=by unfold dW;rw [decide_eq_true ab];rfl
  refine kx rfl ?_
  refine bN (_,[]) rfl (fun τ=> rfl) (fun τ=> aE _ (rfl:_=AV.ptr _ _)) ?_
  refine mO rfl ?_
  refine bN (_,[]) rfl (fun τ=> rfl) (fun τ=> aT _ rfl rfl) ?_
  refine sd rfl ?_
  refine bN (_,[]) rfl (fun τ=> rfl) (fun τ=> aJ _ aa rfl rfl rfl) ?_
  refine so rfl ?_
  refine bN (_,[]) rfl (fun τ=> rfl) (fun τ=> aM _ aa rfl rfl (rfl:_=some (AV.sl _ _))) ?_
  refine sB rfl ?_
  refine bN (_,[]) rfl (fun τ=> rfl) (fun τ=> aE _ (rfl:_=AV.ptr _ _)) ?_
  refine yt rfl ?_
  refine bN (_,[]) rfl (fun τ=> rfl) (fun τ=> aT _ rfl rfl) ?_
  refine zh rfl ?_
  refine bN (_,[]) rfl (fun τ=> rfl) (fun τ=> aJ _ aa rfl rfl rfl) ?_
  refine BC rfl ?_
  refine bN (_,[]) rfl (fun τ=> rfl) (fun τ=> aM _ aa rfl rfl (rfl:_=some (AV.v (.int _ _)))) ?_
  refine AH rfl ?_
  refine bN (_,[]) rfl (fun τ=> rfl) (fun τ=> bf _ _ aa rfl rfl _ rfl ab (by (simp only [ba,bn,bm,bz,bw];omega)) ag) ?_
  refine Bx rfl ?_
  refine bN (_,[]) rfl (fun τ=> rfl) (fun τ=> cY _ aa rfl rfl) ?_
  refine zG rfl ?_
  refine bN (_,[]) rfl (fun τ=> rfl) (fun τ=> bC _ aa rfl (by exact lj _ _ ab) rfl) ?_
  refine zJ rfl ?_
  refine bN (_,[]) rfl (fun τ=> rfl) (fun τ=> (aK aa al (kK (cX T i).t) rfl rfl)) ?_
  refine zL rfl ?_
  refine bN (_,[]) rfl (fun τ=> rfl) (fun τ=> cR _ rfl rfl) ?_
  refine BG rfl ?_
  refine ap (_,[]) (fun τ=> aD _ _ _ rfl (rfl:_=AV.v (.bool _))) ?_
  refine Bq rfl ?_
  refine ap (_,[]) (fun τ=> bH _ (rfl:_=AV.v (.bool _))) ?_
  refine zP rfl (bh ⟨rfl,?_⟩)
  exact aj (aC (aY (.inr rfl) rfl (.tmp (rfl:_=AV.v (.bool _))) (Le.outI [] [] (gz hr) rfl rfl rfl trivial ob tr rfl)))
 ·skip
  have hr:dW T i=false:=by unfold dW;rw [decide_eq_false ab];rfl
  refine kx rfl ?_
  refine cH rfl (fun τ=> rfl) ah ?_
  refine mO rfl ?_
  refine cH rfl (fun τ=> rfl) ah ?_
  refine sd rfl ?_
  refine cH rfl (fun τ=> rfl) ah ?_
  refine so rfl ?_
  refine cH rfl (fun τ=> rfl) ah ?_
  refine sB rfl ?_
  refine cH rfl (fun τ=> rfl) ah ?_
  refine yt rfl ?_
  refine cH rfl (fun τ=> rfl) ah ?_
  refine zh rfl ?_
  refine cH rfl (fun τ=> rfl) ah ?_
  refine BC rfl ?_
  refine cH rfl (fun τ=> rfl) ah ?_
  refine AH rfl ?_
  refine cH rfl (fun τ=> rfl) ah ?_
  refine Bx rfl ?_
  refine cH rfl (fun τ=> rfl) ah ?_
  refine zG rfl ?_
  refine cH rfl (fun τ=> rfl) ah ?_
  refine zJ rfl ?_
  refine cH rfl (fun τ=> rfl) ah ?_
  refine zL rfl ?_
  refine cH rfl (fun τ=> rfl) ah ?_
  refine BG rfl ?_
  refine ap (_,[]) (fun τ=> aD _ _ _ rfl (rfl:_=AV.v (.bool _))) ?_
  refine Bq rfl ?_
  refine ap (_,[]) (fun τ=> bH _ (rfl:_=AV.v (.bool _))) ?_
  refine zP rfl (bh ⟨rfl,?_⟩)
  exact aj (aC (aY (.inr rfl) rfl (.tmp (rfl:_=AV.v (.bool _))) (Le.outI [] [] (gz hr) rfl rfl rfl trivial ob tr rfl)))
theorem jn (T:List Tk) (i:Nat) (N:List Tx) (hi:i < T.length) (hT:T.length≤100000):
  Spec Tryz.prog 196 (be [.ptr (0,9) 0] (Bf T i N)) (bg (.tup []) (Bf T (bS T i) N) [(0,9),(1,9)] [(0,9),(1,9)]):=by
 refine Spec.ofNI Tryz.func196 rfl Tryz.ntmps196 rfl ?_
 refine aq (bG 11 [2,3,4,5,6,7,8,9,10,11,12] [] ae ae rfl (aL rfl) (rfl:_=[_,_,_,_,_,_,_,_,_,_,_]) (rfl:_=[]) ?_)
 refine ap (_,[]) (fun τ=> aE _ (rfl:_=AV.ptr _ _)) ?_
 refine eK rfl ?_
 refine ap (_,[]) (fun τ=> aT _ rfl rfl) ?_
 refine eJ rfl ?_
 refine ap (_,[]) (fun τ=> aJ _ aa rfl rfl rfl) ?_
 refine eI rfl ?_
 refine ap (_,[]) (fun τ=> aM _ aa rfl rfl (rfl:_=some (AV.v (.int _ _)))) ?_
 refine eO rfl ?_
 refine ap (_,[]) (fun τ=> bc _ _ rfl rfl (bp ab)) ?_
 refine fa rfl ?_
 refine ap (_,[]) (fun τ=> aE _ (rfl:_=AV.ptr _ _)) ?_
 refine fC rfl ?_
 refine ap (_,[]) (fun τ=> aT _ rfl rfl) ?_
 refine gv rfl ?_
 refine ap (_,[]) (fun τ=> aJ _ aa rfl rfl rfl) ?_
 refine jI rfl ?_
 refine ap (_,[]) (fun τ=> aM _ aa rfl rfl (rfl:_=some (AV.sl _ _))) ?_
 refine jQ rfl ?_
 refine ap (_,[]) (fun τ=> bF _ aa rfl) ?_
 refine fW rfl ?_
 refine ap (_,[]) (fun τ=> bq _ _ rfl rfl rfl) ?_
 refine gx rfl (bh ⟨rfl,?_⟩)
 refine aj (aU rfl (fun hc12=> ?_) (fun hc12=> ?_))
 ·skip
  have ht:bS T i=i+1:=by unfold bS;rw [if_pos ab]
  refine an (bi rfl (ai (aT _ rfl rfl) (bE rfl rfl rfl (cK rfl rfl rfl (ai (bc _ _ rfl rfl (bp ab)) ?_)))))
  exact ai (aT _ rfl rfl) (bE rfl rfl rfl (bQ rfl rfl rfl rfl rfl rfl (az (eU (.inl rfl) rfl (Le.outI [] [] (.tup rfl bv) rfl rfl rfl trivial ⟨⟨rfl,⟨_,rfl, .box rfl (aI .sl (aI (ci (by rw [ht] <;> omega)) lz))⟩,rfl⟩,⟨rfl,⟨_,rfl, .rowE rfl⟩,rfl⟩,trivial⟩ tr rfl)))))
 ·skip
  have ht:bS T i=i:=by unfold bS;rw [if_neg ab]
  exact bu (eU (.inl rfl) rfl (Le.outI [] [] (.tup rfl bv) rfl rfl rfl trivial ⟨⟨rfl,⟨_,rfl, .box rfl (aI .sl (aI (ci (by rw [ht] <;> omega)) lz))⟩,rfl⟩,⟨rfl,⟨_,rfl, .rowE rfl⟩,rfl⟩,trivial⟩ tr rfl))
theorem pY (T:List Tk) (i j:Nat) (N:List Tx) (s:Tx) (hi:i < T.length) (hT:T.length≤100000) (h:fL T s i=some j):
  Spec Tryz.prog 162 (be [.ptr (0,9) 0, .v (bt s)] (Bf T i N)) (bg (.tup []) (Bf T j N) [(0,9),(1,9)] [(0,9),(1,9)]):=by
 have ⟨hs,hj⟩:(cX T i).t=s∧bS T i=j:=by
  unfold fL at h
  split at h
  ·exact ⟨by assumption,Option.some.inj h⟩
  ·cases h
 subst hs
 subst hj
 refine Spec.ofNI Tryz.func162 rfl Tryz.ntmps162 rfl ?_
 refine aq (am (bi rfl (ai (aT _ rfl rfl) (bE rfl rfl rfl (cK rfl rfl rfl (iX rfl rfl rfl (cL rfl (ax rfl rfl (aE _ (rfl:_=AV.ptr _ _)) (ax rfl rfl (br aa _ _ ar (ep T i N hi) tr rfl ae (by simp)) ?_)))))))))
 refine ax rfl rfl (aE _ (rfl:_=AV.v (.string _))) (ax rfl rfl (qt (r:=false) _ _ Tryz.underlying9 rfl rfl (by exact bne_self_eq_false _)) ?_)
 refine ai (aD _ _ _ rfl (rfl:_=AV.v (.bool _))) (aj (aP rfl rfl (aH (am (bi rfl (ai (aT _ rfl rfl) (bE rfl rfl rfl (cK rfl rfl rfl (iX rfl rfl rfl (aj ?_))))))))))
 refine bD rfl rfl ?_
 refine aN (σ':=aB 28 [(0,_)] [((0,9),_),((1,9),_)] [(0,9),(1,9)] [(0,9),(1,9)]) kp ?_
 refine an (bi rfl (ai (db aa [] ar (jn T i N hi hT) ob tr ae) ?_))
 exact az (eU (.inl rfl) rfl (Le.outI [] [] (.tup rfl bv) rfl rfl rfl trivial ob tr rfl))
end Go.Proofs.YtmjnackchaahbaaGreat
