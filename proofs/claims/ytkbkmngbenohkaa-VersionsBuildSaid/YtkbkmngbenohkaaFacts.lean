/- Facts on the types and the functions of this seat's translation, by program: what a type's zero value is, where a struct's fields lie, that a function can be called. -/
import Derived.Test.YtkbkmngbenohkaaLib
namespace Go.Proofs.Ytkbkmngbenohkaa

instance ty1 : Ty Try.prog 1 false [.nilFunc] := Ty.of (bytes := 8) (.nilFunc) Try.underlying1 rfl (by kernel_rfl) rfl (by simp [Value.oneCell'])
instance ty2 : Ty Try.prog 2 false [.int .i64 0] := Ty.of (bytes := 8) (.int .i64 0) Try.underlying2 rfl (by kernel_rfl) rfl (by simp [Value.oneCell'])
instance ty3 : Ty Try.prog 3 false [.int .i64 0] := Ty.of (bytes := 8) (.int .i64 0) Try.underlying3 rfl (by kernel_rfl) rfl (by simp [Value.oneCell'])
instance ty4 : Ty Try.prog 4 false [.bool false] := Ty.of (bytes := 1) (.bool false) Try.underlying4 rfl (by kernel_rfl) rfl (by simp [Value.oneCell'])
instance ty5 : Ty Try.prog 5 false [.int .u8 0] := Ty.of (bytes := 1) (.int .u8 0) Try.underlying5 rfl (by kernel_rfl) rfl (by simp [Value.oneCell'])
instance ty9 : Ty Try.prog 9 false [.string ByteArray.empty] := Ty.of (bytes := 16) (.string ByteArray.empty) Try.underlying9 rfl (by kernel_rfl) rfl (by simp [Value.oneCell'])
instance ty12 : Ty Try.prog 12 false [.int .u64 0] := Ty.of (bytes := 8) (.int .u64 0) Try.underlying12 rfl (by kernel_rfl) rfl (by simp [Value.oneCell'])
instance ty17 : Ty Try.prog 17 false [.pointer none] := Ty.of (bytes := 8) (.pointer none) Try.underlying17 rfl (by kernel_rfl) rfl (by simp [Value.oneCell'])
instance ty20 : Ty Try.prog 20 false [.nilIface] := Ty.of (bytes := 16) (.nilIface) Try.underlying20 rfl (by kernel_rfl) rfl (by simp [Value.oneCell'])
instance ty21 : Ty Try.prog 21 false [.int .i32 0] := Ty.of (bytes := 4) (.int .i32 0) Try.underlying21 rfl (by kernel_rfl) rfl (by simp [Value.oneCell'])
instance ty22 : Ty Try.prog 22 false [.slice none 0 0] := Ty.of (bytes := 24) (.slice none 0 0) Try.underlying22 rfl (by kernel_rfl) rfl (by simp [Value.oneCell'])
instance ty23 : Ty Try.prog 23 false [.pointer none] := Ty.of (bytes := 8) (.pointer none) Try.underlying23 rfl (by kernel_rfl) rfl (by simp [Value.oneCell'])
instance ty24 : Ty Try.prog 24 false [.int .i64 0] := Ty.of (bytes := 8) (.int .i64 0) Try.underlying24 rfl (by kernel_rfl) rfl (by simp [Value.oneCell'])
instance ty26 : Ty Try.prog 26 false [.nilFunc] := Ty.of (bytes := 8) (.nilFunc) Try.underlying26 rfl (by kernel_rfl) rfl (by simp [Value.oneCell'])
instance ty27 : Ty Try.prog 27 false [.nilFunc] := Ty.of (bytes := 8) (.nilFunc) Try.underlying27 rfl (by kernel_rfl) rfl (by simp [Value.oneCell'])
instance ty28 : Ty Try.prog 28 false [.nilFunc] := Ty.of (bytes := 8) (.nilFunc) Try.underlying28 rfl (by kernel_rfl) rfl (by simp [Value.oneCell'])
instance ty29 : Ty Try.prog 29 false [.slice none 0 0] := Ty.of (bytes := 24) (.slice none 0 0) Try.underlying29 rfl (by kernel_rfl) rfl (by simp [Value.oneCell'])
instance ty30 : Ty Try.prog 30 false [.nilFunc] := Ty.of (bytes := 8) (.nilFunc) Try.underlying30 rfl (by kernel_rfl) rfl (by simp [Value.oneCell'])
instance ty31 : Ty Try.prog 31 false [.slice none 0 0] := Ty.of (bytes := 24) (.slice none 0 0) Try.underlying31 rfl (by kernel_rfl) rfl (by simp [Value.oneCell'])
instance ty32 : Ty Try.prog 32 true [.int .i64 0, .slice none 0 0] := Ty.of (bytes := 32) (.agg #[.int .i64 0, .slice none 0 0]) Try.underlying32 rfl (by kernel_rfl) rfl (by simp [Value.oneCell'])
instance ty33 : Ty Try.prog 33 true [.int .i64 0, .slice none 0 0] := Ty.of (bytes := 32) (.agg #[.int .i64 0, .slice none 0 0]) Try.underlying33 rfl (by kernel_rfl) rfl (by simp [Value.oneCell'])
instance ty35 : Ty Try.prog 35 false [.nilFunc] := Ty.of (bytes := 8) (.nilFunc) Try.underlying35 rfl (by kernel_rfl) rfl (by simp [Value.oneCell'])
instance ty36 : Ty Try.prog 36 false [.nilFunc] := Ty.of (bytes := 8) (.nilFunc) Try.underlying36 rfl (by kernel_rfl) rfl (by simp [Value.oneCell'])
instance ty37 : Ty Try.prog 37 false [.nilFunc] := Ty.of (bytes := 8) (.nilFunc) Try.underlying37 rfl (by kernel_rfl) rfl (by simp [Value.oneCell'])
instance ty38 : Ty Try.prog 38 true [.int .i64 0, .int .i64 0] := Ty.of (bytes := 16) (.agg #[.int .i64 0, .int .i64 0]) Try.underlying38 rfl (by kernel_rfl) rfl (by simp [Value.oneCell'])
instance ty39 : Ty Try.prog 39 false [.nilFunc] := Ty.of (bytes := 8) (.nilFunc) Try.underlying39 rfl (by kernel_rfl) rfl (by simp [Value.oneCell'])
instance ty40 : Ty Try.prog 40 false [.nilFunc] := Ty.of (bytes := 8) (.nilFunc) Try.underlying40 rfl (by kernel_rfl) rfl (by simp [Value.oneCell'])
instance ty41 : Ty Try.prog 41 false [.nilFunc] := Ty.of (bytes := 8) (.nilFunc) Try.underlying41 rfl (by kernel_rfl) rfl (by simp [Value.oneCell'])
instance ty42 : Ty Try.prog 42 false [.nilFunc] := Ty.of (bytes := 8) (.nilFunc) Try.underlying42 rfl (by kernel_rfl) rfl (by simp [Value.oneCell'])
instance ty43 : Ty Try.prog 43 false [.nilFunc] := Ty.of (bytes := 8) (.nilFunc) Try.underlying43 rfl (by kernel_rfl) rfl (by simp [Value.oneCell'])
instance ty44 : Ty Try.prog 44 false [.nilFunc] := Ty.of (bytes := 8) (.nilFunc) Try.underlying44 rfl (by kernel_rfl) rfl (by simp [Value.oneCell'])
instance ty45 : Ty Try.prog 45 false [.nilFunc] := Ty.of (bytes := 8) (.nilFunc) Try.underlying45 rfl (by kernel_rfl) rfl (by simp [Value.oneCell'])
instance ty46 : Ty Try.prog 46 false [.nilFunc] := Ty.of (bytes := 8) (.nilFunc) Try.underlying46 rfl (by kernel_rfl) rfl (by simp [Value.oneCell'])
instance ty47 : Ty Try.prog 47 false [.nilFunc] := Ty.of (bytes := 8) (.nilFunc) Try.underlying47 rfl (by kernel_rfl) rfl (by simp [Value.oneCell'])
instance ty48 : Ty Try.prog 48 false [.nilFunc] := Ty.of (bytes := 8) (.nilFunc) Try.underlying48 rfl (by kernel_rfl) rfl (by simp [Value.oneCell'])
instance ty49 : Ty Try.prog 49 false [.nilFunc] := Ty.of (bytes := 8) (.nilFunc) Try.underlying49 rfl (by kernel_rfl) rfl (by simp [Value.oneCell'])
instance ty51 : Ty Try.prog 51 false [.nilFunc] := Ty.of (bytes := 8) (.nilFunc) Try.underlying51 rfl (by kernel_rfl) rfl (by simp [Value.oneCell'])
instance ty52 : Ty Try.prog 52 false [.nilFunc] := Ty.of (bytes := 8) (.nilFunc) Try.underlying52 rfl (by kernel_rfl) rfl (by simp [Value.oneCell'])
instance ty53 : Ty Try.prog 53 false [.nilFunc] := Ty.of (bytes := 8) (.nilFunc) Try.underlying53 rfl (by kernel_rfl) rfl (by simp [Value.oneCell'])
instance ty54 : Ty Try.prog 54 false [.nilFunc] := Ty.of (bytes := 8) (.nilFunc) Try.underlying54 rfl (by kernel_rfl) rfl (by simp [Value.oneCell'])
instance ty55 : Ty Try.prog 55 false [.nilFunc] := Ty.of (bytes := 8) (.nilFunc) Try.underlying55 rfl (by kernel_rfl) rfl (by simp [Value.oneCell'])
instance ty56 : Ty Try.prog 56 false [.nilFunc] := Ty.of (bytes := 8) (.nilFunc) Try.underlying56 rfl (by kernel_rfl) rfl (by simp [Value.oneCell'])
instance ty57 : Ty Try.prog 57 false [.nilFunc] := Ty.of (bytes := 8) (.nilFunc) Try.underlying57 rfl (by kernel_rfl) rfl (by simp [Value.oneCell'])
instance ty58 : Ty Try.prog 58 false [.nilFunc] := Ty.of (bytes := 8) (.nilFunc) Try.underlying58 rfl (by kernel_rfl) rfl (by simp [Value.oneCell'])
instance ty59 : Ty Try.prog 59 false [.nilFunc] := Ty.of (bytes := 8) (.nilFunc) Try.underlying59 rfl (by kernel_rfl) rfl (by simp [Value.oneCell'])
instance ty60 : Ty Try.prog 60 false [.slice none 0 0] := Ty.of (bytes := 24) (.slice none 0 0) Try.underlying60 rfl (by kernel_rfl) rfl (by simp [Value.oneCell'])
instance ty61 : Ty Try.prog 61 false [.nilFunc] := Ty.of (bytes := 8) (.nilFunc) Try.underlying61 rfl (by kernel_rfl) rfl (by simp [Value.oneCell'])
instance ty62 : Ty Try.prog 62 false [.nilFunc] := Ty.of (bytes := 8) (.nilFunc) Try.underlying62 rfl (by kernel_rfl) rfl (by simp [Value.oneCell'])
instance ty64 : Ty Try.prog 64 false [.nilFunc] := Ty.of (bytes := 8) (.nilFunc) Try.underlying64 rfl (by kernel_rfl) rfl (by simp [Value.oneCell'])
instance ty65 : Ty Try.prog 65 false [.nilFunc] := Ty.of (bytes := 8) (.nilFunc) Try.underlying65 rfl (by kernel_rfl) rfl (by simp [Value.oneCell'])
instance ty66 : Ty Try.prog 66 false [.nilFunc] := Ty.of (bytes := 8) (.nilFunc) Try.underlying66 rfl (by kernel_rfl) rfl (by simp [Value.oneCell'])
instance ty67 : Ty Try.prog 67 false [.nilFunc] := Ty.of (bytes := 8) (.nilFunc) Try.underlying67 rfl (by kernel_rfl) rfl (by simp [Value.oneCell'])
instance ty68 : Ty Try.prog 68 false [.pointer none] := Ty.of (bytes := 8) (.pointer none) Try.underlying68 rfl (by kernel_rfl) rfl (by simp [Value.oneCell'])
instance ty70 : Ty Try.prog 70 false [.nilFunc] := Ty.of (bytes := 8) (.nilFunc) Try.underlying70 rfl (by kernel_rfl) rfl (by simp [Value.oneCell'])
instance ty71 : Ty Try.prog 71 false [.slice none 0 0] := Ty.of (bytes := 24) (.slice none 0 0) Try.underlying71 rfl (by kernel_rfl) rfl (by simp [Value.oneCell'])
instance ty72 : Ty Try.prog 72 false [.nilFunc] := Ty.of (bytes := 8) (.nilFunc) Try.underlying72 rfl (by kernel_rfl) rfl (by simp [Value.oneCell'])
instance ty73 : Ty Try.prog 73 false [.nilFunc] := Ty.of (bytes := 8) (.nilFunc) Try.underlying73 rfl (by kernel_rfl) rfl (by simp [Value.oneCell'])
instance ty74 : Ty Try.prog 74 true [.int .i64 0, .slice none 0 0] := Ty.of (bytes := 32) (.agg #[.int .i64 0, .slice none 0 0]) Try.underlying74 rfl (by kernel_rfl) rfl (by simp [Value.oneCell'])
instance ty75 : Ty Try.prog 75 true [.int .i64 0, .slice none 0 0] := Ty.of (bytes := 32) (.agg #[.int .i64 0, .slice none 0 0]) Try.underlying75 rfl (by kernel_rfl) rfl (by simp [Value.oneCell'])
instance ty76 : Ty Try.prog 76 false [.slice none 0 0] := Ty.of (bytes := 24) (.slice none 0 0) Try.underlying76 rfl (by kernel_rfl) rfl (by simp [Value.oneCell'])
instance ty77 : Ty Try.prog 77 true [.int .i64 0, .slice none 0 0] := Ty.of (bytes := 32) (.agg #[.int .i64 0, .slice none 0 0]) Try.underlying77 rfl (by kernel_rfl) rfl (by simp [Value.oneCell'])
instance ty78 : Ty Try.prog 78 false [.nilFunc] := Ty.of (bytes := 8) (.nilFunc) Try.underlying78 rfl (by kernel_rfl) rfl (by simp [Value.oneCell'])
instance ty79 : Ty Try.prog 79 false [.nilFunc] := Ty.of (bytes := 8) (.nilFunc) Try.underlying79 rfl (by kernel_rfl) rfl (by simp [Value.oneCell'])
instance ty80 : Ty Try.prog 80 false [.nilFunc] := Ty.of (bytes := 8) (.nilFunc) Try.underlying80 rfl (by kernel_rfl) rfl (by simp [Value.oneCell'])
instance ty81 : Ty Try.prog 81 false [.slice none 0 0] := Ty.of (bytes := 24) (.slice none 0 0) Try.underlying81 rfl (by kernel_rfl) rfl (by simp [Value.oneCell'])
instance ty82 : Ty Try.prog 82 false [.nilFunc] := Ty.of (bytes := 8) (.nilFunc) Try.underlying82 rfl (by kernel_rfl) rfl (by simp [Value.oneCell'])
instance ty83 : Ty Try.prog 83 false [.nilFunc] := Ty.of (bytes := 8) (.nilFunc) Try.underlying83 rfl (by kernel_rfl) rfl (by simp [Value.oneCell'])
instance ty84 : Ty Try.prog 84 false [.nilFunc] := Ty.of (bytes := 8) (.nilFunc) Try.underlying84 rfl (by kernel_rfl) rfl (by simp [Value.oneCell'])
instance ty85 : Ty Try.prog 85 false [.nilFunc] := Ty.of (bytes := 8) (.nilFunc) Try.underlying85 rfl (by kernel_rfl) rfl (by simp [Value.oneCell'])
instance ty87 : Ty Try.prog 87 false [.nilFunc] := Ty.of (bytes := 8) (.nilFunc) Try.underlying87 rfl (by kernel_rfl) rfl (by simp [Value.oneCell'])
instance ty88 : Ty Try.prog 88 false [.nilFunc] := Ty.of (bytes := 8) (.nilFunc) Try.underlying88 rfl (by kernel_rfl) rfl (by simp [Value.oneCell'])
instance ty89 : Ty Try.prog 89 false [.nilFunc] := Ty.of (bytes := 8) (.nilFunc) Try.underlying89 rfl (by kernel_rfl) rfl (by simp [Value.oneCell'])
instance ty90 : Ty Try.prog 90 false [.nilFunc] := Ty.of (bytes := 8) (.nilFunc) Try.underlying90 rfl (by kernel_rfl) rfl (by simp [Value.oneCell'])
instance ty91 : Ty Try.prog 91 false [.pointer none] := Ty.of (bytes := 8) (.pointer none) Try.underlying91 rfl (by kernel_rfl) rfl (by simp [Value.oneCell'])
instance ty92 : Ty Try.prog 92 true [.slice none 0 0, .slice none 0 0] := Ty.of (bytes := 48) (.agg #[.slice none 0 0, .slice none 0 0]) Try.underlying92 rfl (by kernel_rfl) rfl (by simp [Value.oneCell'])
instance ty93 : Ty Try.prog 93 true [.slice none 0 0, .slice none 0 0] := Ty.of (bytes := 48) (.agg #[.slice none 0 0, .slice none 0 0]) Try.underlying93 rfl (by kernel_rfl) rfl (by simp [Value.oneCell'])
instance ty95 : Ty Try.prog 95 false [.nilFunc] := Ty.of (bytes := 8) (.nilFunc) Try.underlying95 rfl (by kernel_rfl) rfl (by simp [Value.oneCell'])
instance ty97 : Ty Try.prog 97 false [.nilFunc] := Ty.of (bytes := 8) (.nilFunc) Try.underlying97 rfl (by kernel_rfl) rfl (by simp [Value.oneCell'])
instance ty98 : Ty Try.prog 98 false [.nilFunc] := Ty.of (bytes := 8) (.nilFunc) Try.underlying98 rfl (by kernel_rfl) rfl (by simp [Value.oneCell'])
instance ty99 : Ty Try.prog 99 false [.nilFunc] := Ty.of (bytes := 8) (.nilFunc) Try.underlying99 rfl (by kernel_rfl) rfl (by simp [Value.oneCell'])
instance ty100 : Ty Try.prog 100 false [.nilFunc] := Ty.of (bytes := 8) (.nilFunc) Try.underlying100 rfl (by kernel_rfl) rfl (by simp [Value.oneCell'])
instance ty101 : Ty Try.prog 101 false [.nilFunc] := Ty.of (bytes := 8) (.nilFunc) Try.underlying101 rfl (by kernel_rfl) rfl (by simp [Value.oneCell'])
instance ty102 : Ty Try.prog 102 false [.slice none 0 0] := Ty.of (bytes := 24) (.slice none 0 0) Try.underlying102 rfl (by kernel_rfl) rfl (by simp [Value.oneCell'])
instance ty103 : Ty Try.prog 103 true [.int .i64 0, .slice none 0 0] := Ty.of (bytes := 32) (.agg #[.int .i64 0, .slice none 0 0]) Try.underlying103 rfl (by kernel_rfl) rfl (by simp [Value.oneCell'])
instance ty104 : Ty Try.prog 104 true [.int .i64 0, .slice none 0 0] := Ty.of (bytes := 32) (.agg #[.int .i64 0, .slice none 0 0]) Try.underlying104 rfl (by kernel_rfl) rfl (by simp [Value.oneCell'])
instance ty105 : Ty Try.prog 105 false [.nilFunc] := Ty.of (bytes := 8) (.nilFunc) Try.underlying105 rfl (by kernel_rfl) rfl (by simp [Value.oneCell'])
instance ty106 : Ty Try.prog 106 false [.nilFunc] := Ty.of (bytes := 8) (.nilFunc) Try.underlying106 rfl (by kernel_rfl) rfl (by simp [Value.oneCell'])
instance ty107 : Ty Try.prog 107 false [.nilFunc] := Ty.of (bytes := 8) (.nilFunc) Try.underlying107 rfl (by kernel_rfl) rfl (by simp [Value.oneCell'])
instance ty108 : Ty Try.prog 108 false [.slice none 0 0] := Ty.of (bytes := 24) (.slice none 0 0) Try.underlying108 rfl (by kernel_rfl) rfl (by simp [Value.oneCell'])
instance ty109 : Ty Try.prog 109 false [.slice none 0 0] := Ty.of (bytes := 24) (.slice none 0 0) Try.underlying109 rfl (by kernel_rfl) rfl (by simp [Value.oneCell'])
instance ty110 : Ty Try.prog 110 false [.nilFunc] := Ty.of (bytes := 8) (.nilFunc) Try.underlying110 rfl (by kernel_rfl) rfl (by simp [Value.oneCell'])
instance ty111 : Ty Try.prog 111 false [.nilFunc] := Ty.of (bytes := 8) (.nilFunc) Try.underlying111 rfl (by kernel_rfl) rfl (by simp [Value.oneCell'])
instance ty112 : Ty Try.prog 112 false [.slice none 0 0] := Ty.of (bytes := 24) (.slice none 0 0) Try.underlying112 rfl (by kernel_rfl) rfl (by simp [Value.oneCell'])
instance ty113 : Ty Try.prog 113 false [.nilFunc] := Ty.of (bytes := 8) (.nilFunc) Try.underlying113 rfl (by kernel_rfl) rfl (by simp [Value.oneCell'])
instance ty114 : Ty Try.prog 114 false [.nilFunc] := Ty.of (bytes := 8) (.nilFunc) Try.underlying114 rfl (by kernel_rfl) rfl (by simp [Value.oneCell'])
instance ty115 : Ty Try.prog 115 false [.nilFunc] := Ty.of (bytes := 8) (.nilFunc) Try.underlying115 rfl (by kernel_rfl) rfl (by simp [Value.oneCell'])
instance ty116 : Ty Try.prog 116 false [.pointer none] := Ty.of (bytes := 8) (.pointer none) Try.underlying116 rfl (by kernel_rfl) rfl (by simp [Value.oneCell'])
instance ty117 : Ty Try.prog 117 false [.slice none 0 0] := Ty.of (bytes := 24) (.slice none 0 0) Try.underlying117 rfl (by kernel_rfl) rfl (by simp [Value.oneCell'])
instance ty118 : Ty Try.prog 118 false [.nilFunc] := Ty.of (bytes := 8) (.nilFunc) Try.underlying118 rfl (by kernel_rfl) rfl (by simp [Value.oneCell'])
instance ty119 : Ty Try.prog 119 false [.nilFunc] := Ty.of (bytes := 8) (.nilFunc) Try.underlying119 rfl (by kernel_rfl) rfl (by simp [Value.oneCell'])
instance ty120 : Ty Try.prog 120 false [.nilFunc] := Ty.of (bytes := 8) (.nilFunc) Try.underlying120 rfl (by kernel_rfl) rfl (by simp [Value.oneCell'])
instance ty121 : Ty Try.prog 121 false [.slice none 0 0] := Ty.of (bytes := 24) (.slice none 0 0) Try.underlying121 rfl (by kernel_rfl) rfl (by simp [Value.oneCell'])
instance ty122 : Ty Try.prog 122 true [.slice none 0 0, .slice none 0 0] := Ty.of (bytes := 48) (.agg #[.slice none 0 0, .slice none 0 0]) Try.underlying122 rfl (by kernel_rfl) rfl (by simp [Value.oneCell'])
instance ty123 : Ty Try.prog 123 true [.slice none 0 0, .slice none 0 0] := Ty.of (bytes := 48) (.agg #[.slice none 0 0, .slice none 0 0]) Try.underlying123 rfl (by kernel_rfl) rfl (by simp [Value.oneCell'])
instance ty124 : Ty Try.prog 124 false [.int .u64 0] := Ty.of (bytes := 8) (.int .u64 0) Try.underlying124 rfl (by kernel_rfl) rfl (by simp [Value.oneCell'])
instance ty125 : Ty Try.prog 125 false [.int .u64 0] := Ty.of (bytes := 8) (.int .u64 0) Try.underlying125 rfl (by kernel_rfl) rfl (by simp [Value.oneCell'])
instance ty126 : Ty Try.prog 126 false [.nilFunc] := Ty.of (bytes := 8) (.nilFunc) Try.underlying126 rfl (by kernel_rfl) rfl (by simp [Value.oneCell'])
instance ty127 : Ty Try.prog 127 false [.nilFunc] := Ty.of (bytes := 8) (.nilFunc) Try.underlying127 rfl (by kernel_rfl) rfl (by simp [Value.oneCell'])
instance ty128 : Ty Try.prog 128 false [.nilFunc] := Ty.of (bytes := 8) (.nilFunc) Try.underlying128 rfl (by kernel_rfl) rfl (by simp [Value.oneCell'])
instance ty129 : Ty Try.prog 129 false [.nilFunc] := Ty.of (bytes := 8) (.nilFunc) Try.underlying129 rfl (by kernel_rfl) rfl (by simp [Value.oneCell'])
instance ty130 : Ty Try.prog 130 false [.nilFunc] := Ty.of (bytes := 8) (.nilFunc) Try.underlying130 rfl (by kernel_rfl) rfl (by simp [Value.oneCell'])
instance ty131 : Ty Try.prog 131 false [.nilFunc] := Ty.of (bytes := 8) (.nilFunc) Try.underlying131 rfl (by kernel_rfl) rfl (by simp [Value.oneCell'])
instance ty132 : Ty Try.prog 132 false [.nilFunc] := Ty.of (bytes := 8) (.nilFunc) Try.underlying132 rfl (by kernel_rfl) rfl (by simp [Value.oneCell'])
instance ty133 : Ty Try.prog 133 false [.pointer none] := Ty.of (bytes := 8) (.pointer none) Try.underlying133 rfl (by kernel_rfl) rfl (by simp [Value.oneCell'])
instance ty134 : Ty Try.prog 134 false [.map none] := Ty.of (bytes := 8) (.map none) Try.underlying134 rfl (by kernel_rfl) rfl (by simp [Value.oneCell'])
instance ty135 : Ty Try.prog 135 true [.pointer none, .int .i64 0, .slice none 0 0, .nilFunc, .map none, .slice none 0 0] := Ty.of (bytes := 80) (.agg #[.pointer none, .int .i64 0, .slice none 0 0, .nilFunc, .map none, .slice none 0 0]) Try.underlying135 rfl (by kernel_rfl) rfl (by simp [Value.oneCell'])
instance ty136 : Ty Try.prog 136 true [.pointer none, .int .i64 0, .slice none 0 0, .nilFunc, .map none, .slice none 0 0] := Ty.of (bytes := 80) (.agg #[.pointer none, .int .i64 0, .slice none 0 0, .nilFunc, .map none, .slice none 0 0]) Try.underlying136 rfl (by kernel_rfl) rfl (by simp [Value.oneCell'])
instance ty137 : Ty Try.prog 137 false [.nilFunc] := Ty.of (bytes := 8) (.nilFunc) Try.underlying137 rfl (by kernel_rfl) rfl (by simp [Value.oneCell'])
instance ty138 : Ty Try.prog 138 false [.nilFunc] := Ty.of (bytes := 8) (.nilFunc) Try.underlying138 rfl (by kernel_rfl) rfl (by simp [Value.oneCell'])
instance ty139 : Ty Try.prog 139 true [.slice none 0 0, .int .i64 0, .slice none 0 0, .slice none 0 0] := Ty.of (bytes := 80) (.agg #[.slice none 0 0, .int .i64 0, .slice none 0 0, .slice none 0 0]) Try.underlying139 rfl (by kernel_rfl) rfl (by simp [Value.oneCell'])
instance ty140 : Ty Try.prog 140 true [.slice none 0 0, .int .i64 0, .slice none 0 0, .slice none 0 0] := Ty.of (bytes := 80) (.agg #[.slice none 0 0, .int .i64 0, .slice none 0 0, .slice none 0 0]) Try.underlying140 rfl (by kernel_rfl) rfl (by simp [Value.oneCell'])
instance ty141 : Ty Try.prog 141 false [.nilFunc] := Ty.of (bytes := 8) (.nilFunc) Try.underlying141 rfl (by kernel_rfl) rfl (by simp [Value.oneCell'])
instance ty142 : Ty Try.prog 142 false [.nilFunc] := Ty.of (bytes := 8) (.nilFunc) Try.underlying142 rfl (by kernel_rfl) rfl (by simp [Value.oneCell'])
instance ty143 : Ty Try.prog 143 false [.nilFunc] := Ty.of (bytes := 8) (.nilFunc) Try.underlying143 rfl (by kernel_rfl) rfl (by simp [Value.oneCell'])
instance ty144 : Ty Try.prog 144 false [.nilFunc] := Ty.of (bytes := 8) (.nilFunc) Try.underlying144 rfl (by kernel_rfl) rfl (by simp [Value.oneCell'])
instance ty146 : Ty Try.prog 146 false [.nilFunc] := Ty.of (bytes := 8) (.nilFunc) Try.underlying146 rfl (by kernel_rfl) rfl (by simp [Value.oneCell'])
instance ty147 : Ty Try.prog 147 false [.nilFunc] := Ty.of (bytes := 8) (.nilFunc) Try.underlying147 rfl (by kernel_rfl) rfl (by simp [Value.oneCell'])
instance ty148 : Ty Try.prog 148 false [.nilFunc] := Ty.of (bytes := 8) (.nilFunc) Try.underlying148 rfl (by kernel_rfl) rfl (by simp [Value.oneCell'])
instance ty149 : Ty Try.prog 149 false [.nilIface] := Ty.of (bytes := 16) (.nilIface) Try.underlying149 rfl (by kernel_rfl) rfl (by simp [Value.oneCell'])
instance ty150 : Ty Try.prog 150 false [.nilIface] := Ty.of (bytes := 16) (.nilIface) Try.underlying150 rfl (by kernel_rfl) rfl (by simp [Value.oneCell'])
instance ty151 : Ty Try.prog 151 false [.nilFunc] := Ty.of (bytes := 8) (.nilFunc) Try.underlying151 rfl (by kernel_rfl) rfl (by simp [Value.oneCell'])
instance ty152 : Ty Try.prog 152 false [.nilFunc] := Ty.of (bytes := 8) (.nilFunc) Try.underlying152 rfl (by kernel_rfl) rfl (by simp [Value.oneCell'])
instance ty153 : Ty Try.prog 153 false [.nilFunc] := Ty.of (bytes := 8) (.nilFunc) Try.underlying153 rfl (by kernel_rfl) rfl (by simp [Value.oneCell'])
instance ty154 : Ty Try.prog 154 false [.nilFunc] := Ty.of (bytes := 8) (.nilFunc) Try.underlying154 rfl (by kernel_rfl) rfl (by simp [Value.oneCell'])
instance ty155 : Ty Try.prog 155 false [.nilFunc] := Ty.of (bytes := 8) (.nilFunc) Try.underlying155 rfl (by kernel_rfl) rfl (by simp [Value.oneCell'])
instance ty157 : Ty Try.prog 157 false [.nilFunc] := Ty.of (bytes := 8) (.nilFunc) Try.underlying157 rfl (by kernel_rfl) rfl (by simp [Value.oneCell'])
instance ty158 : Ty Try.prog 158 false [.map none] := Ty.of (bytes := 8) (.map none) Try.underlying158 rfl (by kernel_rfl) rfl (by simp [Value.oneCell'])
instance ty159 : Ty Try.prog 159 false [.nilFunc] := Ty.of (bytes := 8) (.nilFunc) Try.underlying159 rfl (by kernel_rfl) rfl (by simp [Value.oneCell'])
instance ty160 : Ty Try.prog 160 false [.nilFunc] := Ty.of (bytes := 8) (.nilFunc) Try.underlying160 rfl (by kernel_rfl) rfl (by simp [Value.oneCell'])
instance ty161 : Ty Try.prog 161 false [.nilFunc] := Ty.of (bytes := 8) (.nilFunc) Try.underlying161 rfl (by kernel_rfl) rfl (by simp [Value.oneCell'])
instance ty162 : Ty Try.prog 162 false [.nilFunc] := Ty.of (bytes := 8) (.nilFunc) Try.underlying162 rfl (by kernel_rfl) rfl (by simp [Value.oneCell'])
instance ty163 : Ty Try.prog 163 false [.int .u64 0] := Ty.of (bytes := 8) (.int .u64 0) Try.underlying163 rfl (by kernel_rfl) rfl (by simp [Value.oneCell'])
instance ty164 : Ty Try.prog 164 false [.nilFunc] := Ty.of (bytes := 8) (.nilFunc) Try.underlying164 rfl (by kernel_rfl) rfl (by simp [Value.oneCell'])
instance ty165 : Ty Try.prog 165 false [.int .i64 0] := Ty.of (bytes := 8) (.int .i64 0) Try.underlying165 rfl (by kernel_rfl) rfl (by simp [Value.oneCell'])
instance ty167 : Ty Try.prog 167 false [.nilFunc] := Ty.of (bytes := 8) (.nilFunc) Try.underlying167 rfl (by kernel_rfl) rfl (by simp [Value.oneCell'])
instance ty168 : Ty Try.prog 168 false [.nilFunc] := Ty.of (bytes := 8) (.nilFunc) Try.underlying168 rfl (by kernel_rfl) rfl (by simp [Value.oneCell'])
instance ty169 : Ty Try.prog 169 false [.nilFunc] := Ty.of (bytes := 8) (.nilFunc) Try.underlying169 rfl (by kernel_rfl) rfl (by simp [Value.oneCell'])
instance ty170 : Ty Try.prog 170 false [.nilFunc] := Ty.of (bytes := 8) (.nilFunc) Try.underlying170 rfl (by kernel_rfl) rfl (by simp [Value.oneCell'])
instance ty171 : Ty Try.prog 171 false [.nilFunc] := Ty.of (bytes := 8) (.nilFunc) Try.underlying171 rfl (by kernel_rfl) rfl (by simp [Value.oneCell'])
instance ty172 : Ty Try.prog 172 false [.int .u32 0] := Ty.of (bytes := 4) (.int .u32 0) Try.underlying172 rfl (by kernel_rfl) rfl (by simp [Value.oneCell'])
instance ty173 : Ty Try.prog 173 false [.nilFunc] := Ty.of (bytes := 8) (.nilFunc) Try.underlying173 rfl (by kernel_rfl) rfl (by simp [Value.oneCell'])
instance ty174 : Ty Try.prog 174 false [.nilFunc] := Ty.of (bytes := 8) (.nilFunc) Try.underlying174 rfl (by kernel_rfl) rfl (by simp [Value.oneCell'])
instance ty175 : Ty Try.prog 175 false [.int .u64 0] := Ty.of (bytes := 8) (.int .u64 0) Try.underlying175 rfl (by kernel_rfl) rfl (by simp [Value.oneCell'])
instance ty176 : Ty Try.prog 176 false [.nilFunc] := Ty.of (bytes := 8) (.nilFunc) Try.underlying176 rfl (by kernel_rfl) rfl (by simp [Value.oneCell'])
instance ty177 : Ty Try.prog 177 false [.nilFunc] := Ty.of (bytes := 8) (.nilFunc) Try.underlying177 rfl (by kernel_rfl) rfl (by simp [Value.oneCell'])
instance ty178 : Ty Try.prog 178 false [.nilFunc] := Ty.of (bytes := 8) (.nilFunc) Try.underlying178 rfl (by kernel_rfl) rfl (by simp [Value.oneCell'])
instance ty179 : Ty Try.prog 179 false [.pointer none] := Ty.of (bytes := 8) (.pointer none) Try.underlying179 rfl (by kernel_rfl) rfl (by simp [Value.oneCell'])
instance ty180 : Ty Try.prog 180 false [.nilFunc] := Ty.of (bytes := 8) (.nilFunc) Try.underlying180 rfl (by kernel_rfl) rfl (by simp [Value.oneCell'])
instance ty181 : Ty Try.prog 181 false [.pointer none] := Ty.of (bytes := 8) (.pointer none) Try.underlying181 rfl (by kernel_rfl) rfl (by simp [Value.oneCell'])
instance ty183 : Ty Try.prog 183 false [.nilFunc] := Ty.of (bytes := 8) (.nilFunc) Try.underlying183 rfl (by kernel_rfl) rfl (by simp [Value.oneCell'])
instance ty184 : Ty Try.prog 184 false [.nilFunc] := Ty.of (bytes := 8) (.nilFunc) Try.underlying184 rfl (by kernel_rfl) rfl (by simp [Value.oneCell'])
instance ty192 : Ty Try.prog 192 false [.nilFunc] := Ty.of (bytes := 8) (.nilFunc) Try.underlying192 rfl (by kernel_rfl) rfl (by simp [Value.oneCell'])
instance ty193 : Ty Try.prog 193 false [.pointer none] := Ty.of (bytes := 8) (.pointer none) Try.underlying193 rfl (by kernel_rfl) rfl (by simp [Value.oneCell'])
instance ty196 : Ty Try.prog 196 true [.int .u64 0, .int .u64 0, .int .u32 0, .int .u8 0, .int .u8 0, .int .u8 0, .int .u8 0, .nilFunc, .pointer none, .int .i32 0, .int .i32 0] := Ty.of (bytes := 48) (.agg #[.int .u64 0, .int .u64 0, .int .u32 0, .int .u8 0, .int .u8 0, .int .u8 0, .int .u8 0, .nilFunc, .pointer none, .int .i32 0, .int .i32 0]) Try.underlying196 rfl (by kernel_rfl) rfl (by simp [Value.oneCell'])
instance ty198 : Ty Try.prog 198 false [.pointer none] := Ty.of (bytes := 8) (.pointer none) Try.underlying198 rfl (by kernel_rfl) rfl (by simp [Value.oneCell'])
instance el22 : Elem Try.prog 22 38 2 16 [.int .i64 0, .int .i64 0] := Elem.of (.agg #[.int .i64 0, .int .i64 0]) Try.underlying22 (by kernel_rfl) rfl rfl (by decide) (by decide) (by simp [Value.oneCell'])
instance el29 : Elem Try.prog 29 3 1 8 [.int .i64 0] := Elem.of (.int .i64 0) Try.underlying29 (by kernel_rfl) rfl rfl (by decide) (by decide) (by simp [Value.oneCell'])
instance el31 : Elem Try.prog 31 112 1 24 [.slice none 0 0] := Elem.of (.slice none 0 0) Try.underlying31 (by kernel_rfl) rfl rfl (by decide) (by decide) (by simp [Value.oneCell'])
instance el60 : Elem Try.prog 60 29 1 24 [.slice none 0 0] := Elem.of (.slice none 0 0) Try.underlying60 (by kernel_rfl) rfl rfl (by decide) (by decide) (by simp [Value.oneCell'])
instance el71 : Elem Try.prog 71 75 2 32 [.int .i64 0, .slice none 0 0] := Elem.of (.agg #[.int .i64 0, .slice none 0 0]) Try.underlying71 (by kernel_rfl) rfl rfl (by decide) (by decide) (by simp [Value.oneCell'])
instance el76 : Elem Try.prog 76 77 2 32 [.int .i64 0, .slice none 0 0] := Elem.of (.agg #[.int .i64 0, .slice none 0 0]) Try.underlying76 (by kernel_rfl) rfl rfl (by decide) (by decide) (by simp [Value.oneCell'])
instance el81 : Elem Try.prog 81 60 1 24 [.slice none 0 0] := Elem.of (.slice none 0 0) Try.underlying81 (by kernel_rfl) rfl rfl (by decide) (by decide) (by simp [Value.oneCell'])
instance el102 : Elem Try.prog 102 109 1 24 [.slice none 0 0] := Elem.of (.slice none 0 0) Try.underlying102 (by kernel_rfl) rfl rfl (by decide) (by decide) (by simp [Value.oneCell'])
instance el108 : Elem Try.prog 108 124 1 8 [.int .u64 0] := Elem.of (.int .u64 0) Try.underlying108 (by kernel_rfl) rfl rfl (by decide) (by decide) (by simp [Value.oneCell'])
instance el109 : Elem Try.prog 109 124 1 8 [.int .u64 0] := Elem.of (.int .u64 0) Try.underlying109 (by kernel_rfl) rfl rfl (by decide) (by decide) (by simp [Value.oneCell'])
instance el112 : Elem Try.prog 112 4 1 1 [.bool false] := Elem.of (.bool false) Try.underlying112 (by kernel_rfl) rfl rfl (by decide) (by decide) (by simp [Value.oneCell'])
instance el117 : Elem Try.prog 117 3 1 8 [.int .i64 0] := Elem.of (.int .i64 0) Try.underlying117 (by kernel_rfl) rfl rfl (by decide) (by decide) (by simp [Value.oneCell'])
instance el121 : Elem Try.prog 121 125 1 8 [.int .u64 0] := Elem.of (.int .u64 0) Try.underlying121 (by kernel_rfl) rfl rfl (by decide) (by decide) (by simp [Value.oneCell'])
instance fl32x0 : Fld Try.prog 32 0 0 := ⟨fun ad w => by kernel_rfl⟩
instance fv32x0 : Fvl Try.prog 32 0 0 false 1 := Fvl.of Try.underlying32 rfl rfl ty3 rfl
instance fl32x1 : Fld Try.prog 32 1 1 := ⟨fun ad w => by kernel_rfl⟩
instance fv32x1 : Fvl Try.prog 32 1 1 false 1 := Fvl.of Try.underlying32 rfl rfl ty31 rfl
instance fl33x0 : Fld Try.prog 33 0 0 := ⟨fun ad w => by kernel_rfl⟩
instance fv33x0 : Fvl Try.prog 33 0 0 false 1 := Fvl.of Try.underlying33 rfl rfl ty3 rfl
instance fl33x1 : Fld Try.prog 33 1 1 := ⟨fun ad w => by kernel_rfl⟩
instance fv33x1 : Fvl Try.prog 33 1 1 false 1 := Fvl.of Try.underlying33 rfl rfl ty31 rfl
instance fl74x0 : Fld Try.prog 74 0 0 := ⟨fun ad w => by kernel_rfl⟩
instance fv74x0 : Fvl Try.prog 74 0 0 false 1 := Fvl.of Try.underlying74 rfl rfl ty3 rfl
instance fl74x1 : Fld Try.prog 74 1 1 := ⟨fun ad w => by kernel_rfl⟩
instance fv74x1 : Fvl Try.prog 74 1 1 false 1 := Fvl.of Try.underlying74 rfl rfl ty29 rfl
instance fl75x0 : Fld Try.prog 75 0 0 := ⟨fun ad w => by kernel_rfl⟩
instance fv75x0 : Fvl Try.prog 75 0 0 false 1 := Fvl.of Try.underlying75 rfl rfl ty3 rfl
instance fl75x1 : Fld Try.prog 75 1 1 := ⟨fun ad w => by kernel_rfl⟩
instance fv75x1 : Fvl Try.prog 75 1 1 false 1 := Fvl.of Try.underlying75 rfl rfl ty29 rfl
instance fl77x0 : Fld Try.prog 77 0 0 := ⟨fun ad w => by kernel_rfl⟩
instance fv77x0 : Fvl Try.prog 77 0 0 false 1 := Fvl.of Try.underlying77 rfl rfl ty3 rfl
instance fl77x1 : Fld Try.prog 77 1 1 := ⟨fun ad w => by kernel_rfl⟩
instance fv77x1 : Fvl Try.prog 77 1 1 false 1 := Fvl.of Try.underlying77 rfl rfl ty29 rfl
instance fl92x0 : Fld Try.prog 92 0 0 := ⟨fun ad w => by kernel_rfl⟩
instance fv92x0 : Fvl Try.prog 92 0 0 false 1 := Fvl.of Try.underlying92 rfl rfl ty29 rfl
instance fl92x1 : Fld Try.prog 92 1 1 := ⟨fun ad w => by kernel_rfl⟩
instance fv92x1 : Fvl Try.prog 92 1 1 false 1 := Fvl.of Try.underlying92 rfl rfl ty29 rfl
instance fl93x0 : Fld Try.prog 93 0 0 := ⟨fun ad w => by kernel_rfl⟩
instance fv93x0 : Fvl Try.prog 93 0 0 false 1 := Fvl.of Try.underlying93 rfl rfl ty29 rfl
instance fl93x1 : Fld Try.prog 93 1 1 := ⟨fun ad w => by kernel_rfl⟩
instance fv93x1 : Fvl Try.prog 93 1 1 false 1 := Fvl.of Try.underlying93 rfl rfl ty29 rfl
instance fl103x0 : Fld Try.prog 103 0 0 := ⟨fun ad w => by kernel_rfl⟩
instance fv103x0 : Fvl Try.prog 103 0 0 false 1 := Fvl.of Try.underlying103 rfl rfl ty3 rfl
instance fl103x1 : Fld Try.prog 103 1 1 := ⟨fun ad w => by kernel_rfl⟩
instance fv103x1 : Fvl Try.prog 103 1 1 false 1 := Fvl.of Try.underlying103 rfl rfl ty102 rfl
instance fl104x0 : Fld Try.prog 104 0 0 := ⟨fun ad w => by kernel_rfl⟩
instance fv104x0 : Fvl Try.prog 104 0 0 false 1 := Fvl.of Try.underlying104 rfl rfl ty3 rfl
instance fl104x1 : Fld Try.prog 104 1 1 := ⟨fun ad w => by kernel_rfl⟩
instance fv104x1 : Fvl Try.prog 104 1 1 false 1 := Fvl.of Try.underlying104 rfl rfl ty102 rfl
instance fl122x0 : Fld Try.prog 122 0 0 := ⟨fun ad w => by kernel_rfl⟩
instance fv122x0 : Fvl Try.prog 122 0 0 false 1 := Fvl.of Try.underlying122 rfl rfl ty121 rfl
instance fl122x1 : Fld Try.prog 122 1 1 := ⟨fun ad w => by kernel_rfl⟩
instance fv122x1 : Fvl Try.prog 122 1 1 false 1 := Fvl.of Try.underlying122 rfl rfl ty121 rfl
instance fl123x0 : Fld Try.prog 123 0 0 := ⟨fun ad w => by kernel_rfl⟩
instance fv123x0 : Fvl Try.prog 123 0 0 false 1 := Fvl.of Try.underlying123 rfl rfl ty121 rfl
instance fl123x1 : Fld Try.prog 123 1 1 := ⟨fun ad w => by kernel_rfl⟩
instance fv123x1 : Fvl Try.prog 123 1 1 false 1 := Fvl.of Try.underlying123 rfl rfl ty121 rfl
instance fl135x0 : Fld Try.prog 135 0 0 := ⟨fun ad w => by kernel_rfl⟩
instance fv135x0 : Fvl Try.prog 135 0 0 false 1 := Fvl.of Try.underlying135 rfl rfl ty68 rfl
instance fl135x1 : Fld Try.prog 135 1 1 := ⟨fun ad w => by kernel_rfl⟩
instance fv135x1 : Fvl Try.prog 135 1 1 false 1 := Fvl.of Try.underlying135 rfl rfl ty3 rfl
instance fl135x2 : Fld Try.prog 135 2 2 := ⟨fun ad w => by kernel_rfl⟩
instance fv135x2 : Fvl Try.prog 135 2 2 false 1 := Fvl.of Try.underlying135 rfl rfl ty29 rfl
instance fl135x3 : Fld Try.prog 135 3 3 := ⟨fun ad w => by kernel_rfl⟩
instance fv135x3 : Fvl Try.prog 135 3 3 false 1 := Fvl.of Try.underlying135 rfl rfl ty62 rfl
instance fl135x4 : Fld Try.prog 135 4 4 := ⟨fun ad w => by kernel_rfl⟩
instance fv135x4 : Fvl Try.prog 135 4 4 false 1 := Fvl.of Try.underlying135 rfl rfl ty134 rfl
instance fl135x5 : Fld Try.prog 135 5 5 := ⟨fun ad w => by kernel_rfl⟩
instance fv135x5 : Fvl Try.prog 135 5 5 false 1 := Fvl.of Try.underlying135 rfl rfl ty29 rfl
instance fl136x0 : Fld Try.prog 136 0 0 := ⟨fun ad w => by kernel_rfl⟩
instance fv136x0 : Fvl Try.prog 136 0 0 false 1 := Fvl.of Try.underlying136 rfl rfl ty68 rfl
instance fl136x1 : Fld Try.prog 136 1 1 := ⟨fun ad w => by kernel_rfl⟩
instance fv136x1 : Fvl Try.prog 136 1 1 false 1 := Fvl.of Try.underlying136 rfl rfl ty3 rfl
instance fl136x2 : Fld Try.prog 136 2 2 := ⟨fun ad w => by kernel_rfl⟩
instance fv136x2 : Fvl Try.prog 136 2 2 false 1 := Fvl.of Try.underlying136 rfl rfl ty29 rfl
instance fl136x3 : Fld Try.prog 136 3 3 := ⟨fun ad w => by kernel_rfl⟩
instance fv136x3 : Fvl Try.prog 136 3 3 false 1 := Fvl.of Try.underlying136 rfl rfl ty62 rfl
instance fl136x4 : Fld Try.prog 136 4 4 := ⟨fun ad w => by kernel_rfl⟩
instance fv136x4 : Fvl Try.prog 136 4 4 false 1 := Fvl.of Try.underlying136 rfl rfl ty134 rfl
instance fl136x5 : Fld Try.prog 136 5 5 := ⟨fun ad w => by kernel_rfl⟩
instance fv136x5 : Fvl Try.prog 136 5 5 false 1 := Fvl.of Try.underlying136 rfl rfl ty29 rfl
instance fl139x0 : Fld Try.prog 139 0 0 := ⟨fun ad w => by kernel_rfl⟩
instance fv139x0 : Fvl Try.prog 139 0 0 false 1 := Fvl.of Try.underlying139 rfl rfl ty60 rfl
instance fl139x1 : Fld Try.prog 139 1 1 := ⟨fun ad w => by kernel_rfl⟩
instance fv139x1 : Fvl Try.prog 139 1 1 false 1 := Fvl.of Try.underlying139 rfl rfl ty3 rfl
instance fl139x2 : Fld Try.prog 139 2 2 := ⟨fun ad w => by kernel_rfl⟩
instance fv139x2 : Fvl Try.prog 139 2 2 false 1 := Fvl.of Try.underlying139 rfl rfl ty29 rfl
instance fl139x3 : Fld Try.prog 139 3 3 := ⟨fun ad w => by kernel_rfl⟩
instance fv139x3 : Fvl Try.prog 139 3 3 false 1 := Fvl.of Try.underlying139 rfl rfl ty29 rfl
instance fl140x0 : Fld Try.prog 140 0 0 := ⟨fun ad w => by kernel_rfl⟩
instance fv140x0 : Fvl Try.prog 140 0 0 false 1 := Fvl.of Try.underlying140 rfl rfl ty60 rfl
instance fl140x1 : Fld Try.prog 140 1 1 := ⟨fun ad w => by kernel_rfl⟩
instance fv140x1 : Fvl Try.prog 140 1 1 false 1 := Fvl.of Try.underlying140 rfl rfl ty3 rfl
instance fl140x2 : Fld Try.prog 140 2 2 := ⟨fun ad w => by kernel_rfl⟩
instance fv140x2 : Fvl Try.prog 140 2 2 false 1 := Fvl.of Try.underlying140 rfl rfl ty29 rfl
instance fl140x3 : Fld Try.prog 140 3 3 := ⟨fun ad w => by kernel_rfl⟩
instance fv140x3 : Fvl Try.prog 140 3 3 false 1 := Fvl.of Try.underlying140 rfl rfl ty29 rfl
instance fl196x0 : Fld Try.prog 196 0 0 := ⟨fun ad w => by kernel_rfl⟩
instance fv196x0 : Fvl Try.prog 196 0 0 false 1 := Fvl.of Try.underlying196 rfl rfl ty12 rfl
instance fl196x1 : Fld Try.prog 196 1 1 := ⟨fun ad w => by kernel_rfl⟩
instance fv196x1 : Fvl Try.prog 196 1 1 false 1 := Fvl.of Try.underlying196 rfl rfl ty12 rfl
instance fl196x2 : Fld Try.prog 196 2 2 := ⟨fun ad w => by kernel_rfl⟩
instance fv196x2 : Fvl Try.prog 196 2 2 false 1 := Fvl.of Try.underlying196 rfl rfl ty172 rfl
instance fl196x3 : Fld Try.prog 196 3 3 := ⟨fun ad w => by kernel_rfl⟩
instance fl196x4 : Fld Try.prog 196 4 4 := ⟨fun ad w => by kernel_rfl⟩
instance fv196x4 : Fvl Try.prog 196 4 4 false 1 := Fvl.of Try.underlying196 rfl rfl ty5 rfl
instance fl196x5 : Fld Try.prog 196 5 5 := ⟨fun ad w => by kernel_rfl⟩
instance fv196x5 : Fvl Try.prog 196 5 5 false 1 := Fvl.of Try.underlying196 rfl rfl ty5 rfl
instance fl196x6 : Fld Try.prog 196 6 6 := ⟨fun ad w => by kernel_rfl⟩
instance fl196x7 : Fld Try.prog 196 7 7 := ⟨fun ad w => by kernel_rfl⟩
instance fv196x7 : Fvl Try.prog 196 7 7 false 1 := Fvl.of Try.underlying196 rfl rfl ty192 rfl
instance fl196x8 : Fld Try.prog 196 8 8 := ⟨fun ad w => by kernel_rfl⟩
instance fv196x8 : Fvl Try.prog 196 8 8 false 1 := Fvl.of Try.underlying196 rfl rfl ty193 rfl
instance fl196x9 : Fld Try.prog 196 9 9 := ⟨fun ad w => by kernel_rfl⟩
instance fl196x10 : Fld Try.prog 196 10 10 := ⟨fun ad w => by kernel_rfl⟩
instance cb3 : Cbl Try.prog 3 := ⟨fun args w => by kernel_rfl⟩
instance cb4 : Cbl Try.prog 4 := ⟨fun args w => by kernel_rfl⟩
instance cb5 : Cbl Try.prog 5 := ⟨fun args w => by kernel_rfl⟩
instance cb6 : Cbl Try.prog 6 := ⟨fun args w => by kernel_rfl⟩
instance cb7 : Cbl Try.prog 7 := ⟨fun args w => by kernel_rfl⟩
instance cb8 : Cbl Try.prog 8 := ⟨fun args w => by kernel_rfl⟩
instance cb9 : Cbl Try.prog 9 := ⟨fun args w => by kernel_rfl⟩
instance cb10 : Cbl Try.prog 10 := ⟨fun args w => by kernel_rfl⟩
instance cb11 : Cbl Try.prog 11 := ⟨fun args w => by kernel_rfl⟩
instance cb12 : Cbl Try.prog 12 := ⟨fun args w => by kernel_rfl⟩
instance cb13 : Cbl Try.prog 13 := ⟨fun args w => by kernel_rfl⟩
instance cb14 : Cbl Try.prog 14 := ⟨fun args w => by kernel_rfl⟩
instance cb15 : Cbl Try.prog 15 := ⟨fun args w => by kernel_rfl⟩
instance cb16 : Cbl Try.prog 16 := ⟨fun args w => by kernel_rfl⟩
instance cb17 : Cbl Try.prog 17 := ⟨fun args w => by kernel_rfl⟩
instance cb18 : Cbl Try.prog 18 := ⟨fun args w => by kernel_rfl⟩
instance cb19 : Cbl Try.prog 19 := ⟨fun args w => by kernel_rfl⟩
instance cb20 : Cbl Try.prog 20 := ⟨fun args w => by kernel_rfl⟩
instance cb21 : Cbl Try.prog 21 := ⟨fun args w => by kernel_rfl⟩
instance cb22 : Cbl Try.prog 22 := ⟨fun args w => by kernel_rfl⟩
instance cb23 : Cbl Try.prog 23 := ⟨fun args w => by kernel_rfl⟩
instance cb24 : Cbl Try.prog 24 := ⟨fun args w => by kernel_rfl⟩
instance cb25 : Cbl Try.prog 25 := ⟨fun args w => by kernel_rfl⟩
instance cb26 : Cbl Try.prog 26 := ⟨fun args w => by kernel_rfl⟩
instance cb27 : Cbl Try.prog 27 := ⟨fun args w => by kernel_rfl⟩
instance cb28 : Cbl Try.prog 28 := ⟨fun args w => by kernel_rfl⟩
instance cb29 : Cbl Try.prog 29 := ⟨fun args w => by kernel_rfl⟩
instance cb30 : Cbl Try.prog 30 := ⟨fun args w => by kernel_rfl⟩
instance cb31 : Cbl Try.prog 31 := ⟨fun args w => by kernel_rfl⟩
instance cb32 : Cbl Try.prog 32 := ⟨fun args w => by kernel_rfl⟩
instance cb33 : Cbl Try.prog 33 := ⟨fun args w => by kernel_rfl⟩
instance cb34 : Cbl Try.prog 34 := ⟨fun args w => by kernel_rfl⟩
instance cb35 : Cbl Try.prog 35 := ⟨fun args w => by kernel_rfl⟩
instance cb36 : Cbl Try.prog 36 := ⟨fun args w => by kernel_rfl⟩
instance cb37 : Cbl Try.prog 37 := ⟨fun args w => by kernel_rfl⟩
instance cb38 : Cbl Try.prog 38 := ⟨fun args w => by kernel_rfl⟩
instance cb39 : Cbl Try.prog 39 := ⟨fun args w => by kernel_rfl⟩
instance cb40 : Cbl Try.prog 40 := ⟨fun args w => by kernel_rfl⟩
instance cb41 : Cbl Try.prog 41 := ⟨fun args w => by kernel_rfl⟩
instance cb42 : Cbl Try.prog 42 := ⟨fun args w => by kernel_rfl⟩
instance cb43 : Cbl Try.prog 43 := ⟨fun args w => by kernel_rfl⟩
instance cb44 : Cbl Try.prog 44 := ⟨fun args w => by kernel_rfl⟩
instance cb45 : Cbl Try.prog 45 := ⟨fun args w => by kernel_rfl⟩
instance cb46 : Cbl Try.prog 46 := ⟨fun args w => by kernel_rfl⟩
instance cb47 : Cbl Try.prog 47 := ⟨fun args w => by kernel_rfl⟩
instance cb48 : Cbl Try.prog 48 := ⟨fun args w => by kernel_rfl⟩
instance cb49 : Cbl Try.prog 49 := ⟨fun args w => by kernel_rfl⟩
instance cb50 : Cbl Try.prog 50 := ⟨fun args w => by kernel_rfl⟩
instance cb51 : Cbl Try.prog 51 := ⟨fun args w => by kernel_rfl⟩
instance cb52 : Cbl Try.prog 52 := ⟨fun args w => by kernel_rfl⟩
instance cb53 : Cbl Try.prog 53 := ⟨fun args w => by kernel_rfl⟩
instance cb54 : Cbl Try.prog 54 := ⟨fun args w => by kernel_rfl⟩
instance cb55 : Cbl Try.prog 55 := ⟨fun args w => by kernel_rfl⟩
instance cb56 : Cbl Try.prog 56 := ⟨fun args w => by kernel_rfl⟩
instance cb57 : Cbl Try.prog 57 := ⟨fun args w => by kernel_rfl⟩
instance cb58 : Cbl Try.prog 58 := ⟨fun args w => by kernel_rfl⟩
instance cb59 : Cbl Try.prog 59 := ⟨fun args w => by kernel_rfl⟩
instance cb60 : Cbl Try.prog 60 := ⟨fun args w => by kernel_rfl⟩
instance cb61 : Cbl Try.prog 61 := ⟨fun args w => by kernel_rfl⟩
instance cb62 : Cbl Try.prog 62 := ⟨fun args w => by kernel_rfl⟩
instance cb63 : Cbl Try.prog 63 := ⟨fun args w => by kernel_rfl⟩
instance cb64 : Cbl Try.prog 64 := ⟨fun args w => by kernel_rfl⟩
instance cb65 : Cbl Try.prog 65 := ⟨fun args w => by kernel_rfl⟩
instance cb66 : Cbl Try.prog 66 := ⟨fun args w => by kernel_rfl⟩
instance cb67 : Cbl Try.prog 67 := ⟨fun args w => by kernel_rfl⟩
instance cb68 : Cbl Try.prog 68 := ⟨fun args w => by kernel_rfl⟩
instance cb69 : Cbl Try.prog 69 := ⟨fun args w => by kernel_rfl⟩
instance cb70 : Cbl Try.prog 70 := ⟨fun args w => by kernel_rfl⟩
instance cb71 : Cbl Try.prog 71 := ⟨fun args w => by kernel_rfl⟩
instance cb72 : Cbl Try.prog 72 := ⟨fun args w => by kernel_rfl⟩
instance cb73 : Cbl Try.prog 73 := ⟨fun args w => by kernel_rfl⟩
instance cb74 : Cbl Try.prog 74 := ⟨fun args w => by kernel_rfl⟩
instance cb75 : Cbl Try.prog 75 := ⟨fun args w => by kernel_rfl⟩
instance cb76 : Cbl Try.prog 76 := ⟨fun args w => by kernel_rfl⟩
instance cb77 : Cbl Try.prog 77 := ⟨fun args w => by kernel_rfl⟩
instance cb78 : Cbl Try.prog 78 := ⟨fun args w => by kernel_rfl⟩
instance cb79 : Cbl Try.prog 79 := ⟨fun args w => by kernel_rfl⟩
instance cb80 : Cbl Try.prog 80 := ⟨fun args w => by kernel_rfl⟩
instance cb81 : Cbl Try.prog 81 := ⟨fun args w => by kernel_rfl⟩
instance cb82 : Cbl Try.prog 82 := ⟨fun args w => by kernel_rfl⟩
instance cb83 : Cbl Try.prog 83 := ⟨fun args w => by kernel_rfl⟩
instance cb84 : Cbl Try.prog 84 := ⟨fun args w => by kernel_rfl⟩
instance cb85 : Cbl Try.prog 85 := ⟨fun args w => by kernel_rfl⟩
instance cb86 : Cbl Try.prog 86 := ⟨fun args w => by kernel_rfl⟩
instance cb87 : Cbl Try.prog 87 := ⟨fun args w => by kernel_rfl⟩
instance cb88 : Cbl Try.prog 88 := ⟨fun args w => by kernel_rfl⟩
instance cb89 : Cbl Try.prog 89 := ⟨fun args w => by kernel_rfl⟩
instance cb90 : Cbl Try.prog 90 := ⟨fun args w => by kernel_rfl⟩
instance cb91 : Cbl Try.prog 91 := ⟨fun args w => by kernel_rfl⟩
instance cb92 : Cbl Try.prog 92 := ⟨fun args w => by kernel_rfl⟩
instance cb93 : Cbl Try.prog 93 := ⟨fun args w => by kernel_rfl⟩
instance cb94 : Cbl Try.prog 94 := ⟨fun args w => by kernel_rfl⟩
instance cb95 : Cbl Try.prog 95 := ⟨fun args w => by kernel_rfl⟩
instance cb96 : Cbl Try.prog 96 := ⟨fun args w => by kernel_rfl⟩
instance cb97 : Cbl Try.prog 97 := ⟨fun args w => by kernel_rfl⟩
instance cb98 : Cbl Try.prog 98 := ⟨fun args w => by kernel_rfl⟩
instance cb99 : Cbl Try.prog 99 := ⟨fun args w => by kernel_rfl⟩
instance cb100 : Cbl Try.prog 100 := ⟨fun args w => by kernel_rfl⟩
instance cb101 : Cbl Try.prog 101 := ⟨fun args w => by kernel_rfl⟩
instance cb102 : Cbl Try.prog 102 := ⟨fun args w => by kernel_rfl⟩
instance cb103 : Cbl Try.prog 103 := ⟨fun args w => by kernel_rfl⟩
instance cb104 : Cbl Try.prog 104 := ⟨fun args w => by kernel_rfl⟩
instance cb105 : Cbl Try.prog 105 := ⟨fun args w => by kernel_rfl⟩
instance cb106 : Cbl Try.prog 106 := ⟨fun args w => by kernel_rfl⟩
instance cb107 : Cbl Try.prog 107 := ⟨fun args w => by kernel_rfl⟩
instance cb108 : Cbl Try.prog 108 := ⟨fun args w => by kernel_rfl⟩
instance cb109 : Cbl Try.prog 109 := ⟨fun args w => by kernel_rfl⟩
instance cb110 : Cbl Try.prog 110 := ⟨fun args w => by kernel_rfl⟩
instance cb111 : Cbl Try.prog 111 := ⟨fun args w => by kernel_rfl⟩
instance cb112 : Cbl Try.prog 112 := ⟨fun args w => by kernel_rfl⟩
instance cb113 : Cbl Try.prog 113 := ⟨fun args w => by kernel_rfl⟩
instance cb114 : Cbl Try.prog 114 := ⟨fun args w => by kernel_rfl⟩
instance cb115 : Cbl Try.prog 115 := ⟨fun args w => by kernel_rfl⟩
instance cb116 : Cbl Try.prog 116 := ⟨fun args w => by kernel_rfl⟩
instance cb117 : Cbl Try.prog 117 := ⟨fun args w => by kernel_rfl⟩
instance cb118 : Cbl Try.prog 118 := ⟨fun args w => by kernel_rfl⟩
instance cb119 : Cbl Try.prog 119 := ⟨fun args w => by kernel_rfl⟩
instance cb120 : Cbl Try.prog 120 := ⟨fun args w => by kernel_rfl⟩
instance cb121 : Cbl Try.prog 121 := ⟨fun args w => by kernel_rfl⟩
instance cb122 : Cbl Try.prog 122 := ⟨fun args w => by kernel_rfl⟩
instance cb123 : Cbl Try.prog 123 := ⟨fun args w => by kernel_rfl⟩
instance cb124 : Cbl Try.prog 124 := ⟨fun args w => by kernel_rfl⟩
instance cb125 : Cbl Try.prog 125 := ⟨fun args w => by kernel_rfl⟩
instance cb126 : Cbl Try.prog 126 := ⟨fun args w => by kernel_rfl⟩
instance cb127 : Cbl Try.prog 127 := ⟨fun args w => by kernel_rfl⟩
instance cb128 : Cbl Try.prog 128 := ⟨fun args w => by kernel_rfl⟩
instance cb129 : Cbl Try.prog 129 := ⟨fun args w => by kernel_rfl⟩
instance cb130 : Cbl Try.prog 130 := ⟨fun args w => by kernel_rfl⟩
instance cb131 : Cbl Try.prog 131 := ⟨fun args w => by kernel_rfl⟩
instance cb132 : Cbl Try.prog 132 := ⟨fun args w => by kernel_rfl⟩
instance cb133 : Cbl Try.prog 133 := ⟨fun args w => by kernel_rfl⟩
instance cb134 : Cbl Try.prog 134 := ⟨fun args w => by kernel_rfl⟩
instance cb135 : Cbl Try.prog 135 := ⟨fun args w => by kernel_rfl⟩
instance cb136 : Cbl Try.prog 136 := ⟨fun args w => by kernel_rfl⟩
instance cb137 : Cbl Try.prog 137 := ⟨fun args w => by kernel_rfl⟩
instance cb138 : Cbl Try.prog 138 := ⟨fun args w => by kernel_rfl⟩
instance cb139 : Cbl Try.prog 139 := ⟨fun args w => by kernel_rfl⟩
instance cb140 : Cbl Try.prog 140 := ⟨fun args w => by kernel_rfl⟩
instance cb141 : Cbl Try.prog 141 := ⟨fun args w => by kernel_rfl⟩
instance cb142 : Cbl Try.prog 142 := ⟨fun args w => by kernel_rfl⟩
instance cb143 : Cbl Try.prog 143 := ⟨fun args w => by kernel_rfl⟩
instance cb144 : Cbl Try.prog 144 := ⟨fun args w => by kernel_rfl⟩
instance cb145 : Cbl Try.prog 145 := ⟨fun args w => by kernel_rfl⟩
instance cb146 : Cbl Try.prog 146 := ⟨fun args w => by kernel_rfl⟩
instance cb147 : Cbl Try.prog 147 := ⟨fun args w => by kernel_rfl⟩
instance cb148 : Cbl Try.prog 148 := ⟨fun args w => by kernel_rfl⟩
instance cb149 : Cbl Try.prog 149 := ⟨fun args w => by kernel_rfl⟩
instance cb150 : Cbl Try.prog 150 := ⟨fun args w => by kernel_rfl⟩
instance cb151 : Cbl Try.prog 151 := ⟨fun args w => by kernel_rfl⟩
instance cb152 : Cbl Try.prog 152 := ⟨fun args w => by kernel_rfl⟩
instance cb153 : Cbl Try.prog 153 := ⟨fun args w => by kernel_rfl⟩
instance cb154 : Cbl Try.prog 154 := ⟨fun args w => by kernel_rfl⟩
instance cb155 : Cbl Try.prog 155 := ⟨fun args w => by kernel_rfl⟩
instance cb156 : Cbl Try.prog 156 := ⟨fun args w => by kernel_rfl⟩
instance cb157 : Cbl Try.prog 157 := ⟨fun args w => by kernel_rfl⟩
instance cb158 : Cbl Try.prog 158 := ⟨fun args w => by kernel_rfl⟩
instance cb176 : Cbl Try.prog 176 := ⟨fun args w => by kernel_rfl⟩
instance cb177 : Cbl Try.prog 177 := ⟨fun args w => by kernel_rfl⟩
instance cb178 : Cbl Try.prog 178 := ⟨fun args w => by kernel_rfl⟩
instance cb179 : Cbl Try.prog 179 := ⟨fun args w => by kernel_rfl⟩
end Go.Proofs.Ytkbkmngbenohkaa
