/- Facts on the types and the functions of this seat's translation, by program: what a type's zero value is, where a struct's fields lie, that a function can be called. -/
import Derived.Test.YtphlaojoehmhaaaLib
namespace Go.Proofs.Ytphlaojoehmhaaa

instance ty1 : Ty Try.prog 1 false [.nilFunc] := Ty.of (bytes := 8) (.nilFunc) Try.underlying1 rfl (by kernel_rfl) rfl (by simp [Value.oneCell'])
instance ty2 : Ty Try.prog 2 false [.int .i64 0] := Ty.of (bytes := 8) (.int .i64 0) Try.underlying2 rfl (by kernel_rfl) rfl (by simp [Value.oneCell'])
instance ty3 : Ty Try.prog 3 false [.int .i64 0] := Ty.of (bytes := 8) (.int .i64 0) Try.underlying3 rfl (by kernel_rfl) rfl (by simp [Value.oneCell'])
instance ty4 : Ty Try.prog 4 false [.bool false] := Ty.of (bytes := 1) (.bool false) Try.underlying4 rfl (by kernel_rfl) rfl (by simp [Value.oneCell'])
instance ty5 : Ty Try.prog 5 false [.int .u8 0] := Ty.of (bytes := 1) (.int .u8 0) Try.underlying5 rfl (by kernel_rfl) rfl (by simp [Value.oneCell'])
instance ty9 : Ty Try.prog 9 false [.string ByteArray.empty] := Ty.of (bytes := 16) (.string ByteArray.empty) Try.underlying9 rfl (by kernel_rfl) rfl (by simp [Value.oneCell'])
instance ty12 : Ty Try.prog 12 false [.int .u64 0] := Ty.of (bytes := 8) (.int .u64 0) Try.underlying12 rfl (by kernel_rfl) rfl (by simp [Value.oneCell'])
instance ty17 : Ty Try.prog 17 false [.pointer none] := Ty.of (bytes := 8) (.pointer none) Try.underlying17 rfl (by kernel_rfl) rfl (by simp [Value.oneCell'])
instance ty20 : Ty Try.prog 20 false [.nilIface] := Ty.of (bytes := 16) (.nilIface) Try.underlying20 rfl (by kernel_rfl) rfl (by simp [Value.oneCell'])
instance ty21 : Ty Try.prog 21 false [.int .i32 0] := Ty.of (bytes := 4) (.int .i32 0) Try.underlying21 rfl (by kernel_rfl) rfl (by simp [Value.oneCell'])
instance ty22 : Ty Try.prog 22 false [.slice none 0 0] := Ty.of (bytes := 24) (.slice none 0 0) Try.underlying22 rfl (by kernel_rfl) rfl (by simp [Value.oneCell'])
instance ty23 : Ty Try.prog 23 false [.nilFunc] := Ty.of (bytes := 8) (.nilFunc) Try.underlying23 rfl (by kernel_rfl) rfl (by simp [Value.oneCell'])
instance ty24 : Ty Try.prog 24 false [.slice none 0 0] := Ty.of (bytes := 24) (.slice none 0 0) Try.underlying24 rfl (by kernel_rfl) rfl (by simp [Value.oneCell'])
instance ty25 : Ty Try.prog 25 true [.slice none 0 0, .slice none 0 0] := Ty.of (bytes := 48) (.agg #[.slice none 0 0, .slice none 0 0]) Try.underlying25 rfl (by kernel_rfl) rfl (by simp [Value.oneCell'])
instance ty26 : Ty Try.prog 26 true [.slice none 0 0, .slice none 0 0] := Ty.of (bytes := 48) (.agg #[.slice none 0 0, .slice none 0 0]) Try.underlying26 rfl (by kernel_rfl) rfl (by simp [Value.oneCell'])
instance ty27 : Ty Try.prog 27 false [.nilFunc] := Ty.of (bytes := 8) (.nilFunc) Try.underlying27 rfl (by kernel_rfl) rfl (by simp [Value.oneCell'])
instance ty28 : Ty Try.prog 28 false [.nilFunc] := Ty.of (bytes := 8) (.nilFunc) Try.underlying28 rfl (by kernel_rfl) rfl (by simp [Value.oneCell'])
instance ty29 : Ty Try.prog 29 false [.nilFunc] := Ty.of (bytes := 8) (.nilFunc) Try.underlying29 rfl (by kernel_rfl) rfl (by simp [Value.oneCell'])
instance ty30 : Ty Try.prog 30 false [.nilFunc] := Ty.of (bytes := 8) (.nilFunc) Try.underlying30 rfl (by kernel_rfl) rfl (by simp [Value.oneCell'])
instance ty31 : Ty Try.prog 31 false [.nilFunc] := Ty.of (bytes := 8) (.nilFunc) Try.underlying31 rfl (by kernel_rfl) rfl (by simp [Value.oneCell'])
instance ty32 : Ty Try.prog 32 false [.slice none 0 0] := Ty.of (bytes := 24) (.slice none 0 0) Try.underlying32 rfl (by kernel_rfl) rfl (by simp [Value.oneCell'])
instance ty33 : Ty Try.prog 33 false [.nilFunc] := Ty.of (bytes := 8) (.nilFunc) Try.underlying33 rfl (by kernel_rfl) rfl (by simp [Value.oneCell'])
instance ty34 : Ty Try.prog 34 false [.nilFunc] := Ty.of (bytes := 8) (.nilFunc) Try.underlying34 rfl (by kernel_rfl) rfl (by simp [Value.oneCell'])
instance ty35 : Ty Try.prog 35 false [.slice none 0 0] := Ty.of (bytes := 24) (.slice none 0 0) Try.underlying35 rfl (by kernel_rfl) rfl (by simp [Value.oneCell'])
instance ty36 : Ty Try.prog 36 true [.int .i64 0, .int .i64 0, .int .i64 0, .slice none 0 0] := Ty.of (bytes := 48) (.agg #[.int .i64 0, .int .i64 0, .int .i64 0, .slice none 0 0]) Try.underlying36 rfl (by kernel_rfl) rfl (by simp [Value.oneCell'])
instance ty37 : Ty Try.prog 37 true [.int .i64 0, .int .i64 0, .int .i64 0, .slice none 0 0] := Ty.of (bytes := 48) (.agg #[.int .i64 0, .int .i64 0, .int .i64 0, .slice none 0 0]) Try.underlying37 rfl (by kernel_rfl) rfl (by simp [Value.oneCell'])
instance ty38 : Ty Try.prog 38 false [.nilFunc] := Ty.of (bytes := 8) (.nilFunc) Try.underlying38 rfl (by kernel_rfl) rfl (by simp [Value.oneCell'])
instance ty39 : Ty Try.prog 39 false [.nilFunc] := Ty.of (bytes := 8) (.nilFunc) Try.underlying39 rfl (by kernel_rfl) rfl (by simp [Value.oneCell'])
instance ty40 : Ty Try.prog 40 false [.nilFunc] := Ty.of (bytes := 8) (.nilFunc) Try.underlying40 rfl (by kernel_rfl) rfl (by simp [Value.oneCell'])
instance ty41 : Ty Try.prog 41 false [.nilFunc] := Ty.of (bytes := 8) (.nilFunc) Try.underlying41 rfl (by kernel_rfl) rfl (by simp [Value.oneCell'])
instance ty42 : Ty Try.prog 42 false [.nilFunc] := Ty.of (bytes := 8) (.nilFunc) Try.underlying42 rfl (by kernel_rfl) rfl (by simp [Value.oneCell'])
instance ty43 : Ty Try.prog 43 false [.nilFunc] := Ty.of (bytes := 8) (.nilFunc) Try.underlying43 rfl (by kernel_rfl) rfl (by simp [Value.oneCell'])
instance ty44 : Ty Try.prog 44 false [.nilFunc] := Ty.of (bytes := 8) (.nilFunc) Try.underlying44 rfl (by kernel_rfl) rfl (by simp [Value.oneCell'])
instance ty45 : Ty Try.prog 45 true [.int .i64 0, .int .i64 0] := Ty.of (bytes := 16) (.agg #[.int .i64 0, .int .i64 0]) Try.underlying45 rfl (by kernel_rfl) rfl (by simp [Value.oneCell'])
instance ty46 : Ty Try.prog 46 true [.int .i64 0, .int .i64 0] := Ty.of (bytes := 16) (.agg #[.int .i64 0, .int .i64 0]) Try.underlying46 rfl (by kernel_rfl) rfl (by simp [Value.oneCell'])
instance ty47 : Ty Try.prog 47 false [.nilFunc] := Ty.of (bytes := 8) (.nilFunc) Try.underlying47 rfl (by kernel_rfl) rfl (by simp [Value.oneCell'])
instance ty48 : Ty Try.prog 48 false [.nilFunc] := Ty.of (bytes := 8) (.nilFunc) Try.underlying48 rfl (by kernel_rfl) rfl (by simp [Value.oneCell'])
instance ty49 : Ty Try.prog 49 false [.slice none 0 0] := Ty.of (bytes := 24) (.slice none 0 0) Try.underlying49 rfl (by kernel_rfl) rfl (by simp [Value.oneCell'])
instance ty50 : Ty Try.prog 50 false [.nilFunc] := Ty.of (bytes := 8) (.nilFunc) Try.underlying50 rfl (by kernel_rfl) rfl (by simp [Value.oneCell'])
instance ty51 : Ty Try.prog 51 false [.int .u64 0] := Ty.of (bytes := 8) (.int .u64 0) Try.underlying51 rfl (by kernel_rfl) rfl (by simp [Value.oneCell'])
instance ty52 : Ty Try.prog 52 false [.nilFunc] := Ty.of (bytes := 8) (.nilFunc) Try.underlying52 rfl (by kernel_rfl) rfl (by simp [Value.oneCell'])
instance ty53 : Ty Try.prog 53 false [.nilFunc] := Ty.of (bytes := 8) (.nilFunc) Try.underlying53 rfl (by kernel_rfl) rfl (by simp [Value.oneCell'])
instance ty59 : Ty Try.prog 59 false [.nilFunc] := Ty.of (bytes := 8) (.nilFunc) Try.underlying59 rfl (by kernel_rfl) rfl (by simp [Value.oneCell'])
instance ty60 : Ty Try.prog 60 false [.int .u32 0] := Ty.of (bytes := 4) (.int .u32 0) Try.underlying60 rfl (by kernel_rfl) rfl (by simp [Value.oneCell'])
instance ty63 : Ty Try.prog 63 false [.nilFunc] := Ty.of (bytes := 8) (.nilFunc) Try.underlying63 rfl (by kernel_rfl) rfl (by simp [Value.oneCell'])
instance ty64 : Ty Try.prog 64 false [.pointer none] := Ty.of (bytes := 8) (.pointer none) Try.underlying64 rfl (by kernel_rfl) rfl (by simp [Value.oneCell'])
instance ty67 : Ty Try.prog 67 true [.int .u64 0, .int .u64 0, .int .u32 0, .int .u8 0, .int .u8 0, .int .u8 0, .int .u8 0, .nilFunc, .pointer none, .int .i32 0, .int .i32 0] := Ty.of (bytes := 48) (.agg #[.int .u64 0, .int .u64 0, .int .u32 0, .int .u8 0, .int .u8 0, .int .u8 0, .int .u8 0, .nilFunc, .pointer none, .int .i32 0, .int .i32 0]) Try.underlying67 rfl (by kernel_rfl) rfl (by simp [Value.oneCell'])
instance ty69 : Ty Try.prog 69 false [.pointer none] := Ty.of (bytes := 8) (.pointer none) Try.underlying69 rfl (by kernel_rfl) rfl (by simp [Value.oneCell'])
instance el22 : Elem Try.prog 22 3 1 8 [.int .i64 0] := Elem.of (.int .i64 0) Try.underlying22 (by kernel_rfl) rfl rfl (by decide) (by decide) (by simp [Value.oneCell'])
instance el24 : Elem Try.prog 24 46 2 16 [.int .i64 0, .int .i64 0] := Elem.of (.agg #[.int .i64 0, .int .i64 0]) Try.underlying24 (by kernel_rfl) rfl rfl (by decide) (by decide) (by simp [Value.oneCell'])
instance el32 : Elem Try.prog 32 37 4 48 [.int .i64 0, .int .i64 0, .int .i64 0, .slice none 0 0] := Elem.of (.agg #[.int .i64 0, .int .i64 0, .int .i64 0, .slice none 0 0]) Try.underlying32 (by kernel_rfl) rfl rfl (by decide) (by decide) (by simp [Value.oneCell'])
instance el35 : Elem Try.prog 35 4 1 1 [.bool false] := Elem.of (.bool false) Try.underlying35 (by kernel_rfl) rfl rfl (by decide) (by decide) (by simp [Value.oneCell'])
instance el49 : Elem Try.prog 49 26 2 48 [.slice none 0 0, .slice none 0 0] := Elem.of (.agg #[.slice none 0 0, .slice none 0 0]) Try.underlying49 (by kernel_rfl) rfl rfl (by decide) (by decide) (by simp [Value.oneCell'])
instance fl25x0 : Fld Try.prog 25 0 0 := ⟨fun ad w => by kernel_rfl⟩
instance fv25x0 : Fvl Try.prog 25 0 0 false 1 := Fvl.of Try.underlying25 rfl rfl ty22 rfl
instance fl25x1 : Fld Try.prog 25 1 1 := ⟨fun ad w => by kernel_rfl⟩
instance fv25x1 : Fvl Try.prog 25 1 1 false 1 := Fvl.of Try.underlying25 rfl rfl ty24 rfl
instance fl26x0 : Fld Try.prog 26 0 0 := ⟨fun ad w => by kernel_rfl⟩
instance fv26x0 : Fvl Try.prog 26 0 0 false 1 := Fvl.of Try.underlying26 rfl rfl ty22 rfl
instance fl26x1 : Fld Try.prog 26 1 1 := ⟨fun ad w => by kernel_rfl⟩
instance fv26x1 : Fvl Try.prog 26 1 1 false 1 := Fvl.of Try.underlying26 rfl rfl ty24 rfl
instance fl36x0 : Fld Try.prog 36 0 0 := ⟨fun ad w => by kernel_rfl⟩
instance fv36x0 : Fvl Try.prog 36 0 0 false 1 := Fvl.of Try.underlying36 rfl rfl ty3 rfl
instance fl36x1 : Fld Try.prog 36 1 1 := ⟨fun ad w => by kernel_rfl⟩
instance fv36x1 : Fvl Try.prog 36 1 1 false 1 := Fvl.of Try.underlying36 rfl rfl ty3 rfl
instance fl36x2 : Fld Try.prog 36 2 2 := ⟨fun ad w => by kernel_rfl⟩
instance fv36x2 : Fvl Try.prog 36 2 2 false 1 := Fvl.of Try.underlying36 rfl rfl ty3 rfl
instance fl36x3 : Fld Try.prog 36 3 3 := ⟨fun ad w => by kernel_rfl⟩
instance fv36x3 : Fvl Try.prog 36 3 3 false 1 := Fvl.of Try.underlying36 rfl rfl ty35 rfl
instance fl37x0 : Fld Try.prog 37 0 0 := ⟨fun ad w => by kernel_rfl⟩
instance fv37x0 : Fvl Try.prog 37 0 0 false 1 := Fvl.of Try.underlying37 rfl rfl ty3 rfl
instance fl37x1 : Fld Try.prog 37 1 1 := ⟨fun ad w => by kernel_rfl⟩
instance fv37x1 : Fvl Try.prog 37 1 1 false 1 := Fvl.of Try.underlying37 rfl rfl ty3 rfl
instance fl37x2 : Fld Try.prog 37 2 2 := ⟨fun ad w => by kernel_rfl⟩
instance fv37x2 : Fvl Try.prog 37 2 2 false 1 := Fvl.of Try.underlying37 rfl rfl ty3 rfl
instance fl37x3 : Fld Try.prog 37 3 3 := ⟨fun ad w => by kernel_rfl⟩
instance fv37x3 : Fvl Try.prog 37 3 3 false 1 := Fvl.of Try.underlying37 rfl rfl ty35 rfl
instance fl45x0 : Fld Try.prog 45 0 0 := ⟨fun ad w => by kernel_rfl⟩
instance fv45x0 : Fvl Try.prog 45 0 0 false 1 := Fvl.of Try.underlying45 rfl rfl ty3 rfl
instance fl45x1 : Fld Try.prog 45 1 1 := ⟨fun ad w => by kernel_rfl⟩
instance fv45x1 : Fvl Try.prog 45 1 1 false 1 := Fvl.of Try.underlying45 rfl rfl ty3 rfl
instance fl46x0 : Fld Try.prog 46 0 0 := ⟨fun ad w => by kernel_rfl⟩
instance fv46x0 : Fvl Try.prog 46 0 0 false 1 := Fvl.of Try.underlying46 rfl rfl ty3 rfl
instance fl46x1 : Fld Try.prog 46 1 1 := ⟨fun ad w => by kernel_rfl⟩
instance fv46x1 : Fvl Try.prog 46 1 1 false 1 := Fvl.of Try.underlying46 rfl rfl ty3 rfl
instance fl67x0 : Fld Try.prog 67 0 0 := ⟨fun ad w => by kernel_rfl⟩
instance fv67x0 : Fvl Try.prog 67 0 0 false 1 := Fvl.of Try.underlying67 rfl rfl ty12 rfl
instance fl67x1 : Fld Try.prog 67 1 1 := ⟨fun ad w => by kernel_rfl⟩
instance fv67x1 : Fvl Try.prog 67 1 1 false 1 := Fvl.of Try.underlying67 rfl rfl ty12 rfl
instance fl67x2 : Fld Try.prog 67 2 2 := ⟨fun ad w => by kernel_rfl⟩
instance fv67x2 : Fvl Try.prog 67 2 2 false 1 := Fvl.of Try.underlying67 rfl rfl ty60 rfl
instance fl67x3 : Fld Try.prog 67 3 3 := ⟨fun ad w => by kernel_rfl⟩
instance fl67x4 : Fld Try.prog 67 4 4 := ⟨fun ad w => by kernel_rfl⟩
instance fv67x4 : Fvl Try.prog 67 4 4 false 1 := Fvl.of Try.underlying67 rfl rfl ty5 rfl
instance fl67x5 : Fld Try.prog 67 5 5 := ⟨fun ad w => by kernel_rfl⟩
instance fv67x5 : Fvl Try.prog 67 5 5 false 1 := Fvl.of Try.underlying67 rfl rfl ty5 rfl
instance fl67x6 : Fld Try.prog 67 6 6 := ⟨fun ad w => by kernel_rfl⟩
instance fl67x7 : Fld Try.prog 67 7 7 := ⟨fun ad w => by kernel_rfl⟩
instance fv67x7 : Fvl Try.prog 67 7 7 false 1 := Fvl.of Try.underlying67 rfl rfl ty63 rfl
instance fl67x8 : Fld Try.prog 67 8 8 := ⟨fun ad w => by kernel_rfl⟩
instance fv67x8 : Fvl Try.prog 67 8 8 false 1 := Fvl.of Try.underlying67 rfl rfl ty64 rfl
instance fl67x9 : Fld Try.prog 67 9 9 := ⟨fun ad w => by kernel_rfl⟩
instance fl67x10 : Fld Try.prog 67 10 10 := ⟨fun ad w => by kernel_rfl⟩
instance cb3 : Cbl Try.prog 3 := ⟨fun args w => by kernel_rfl⟩
instance cb4 : Cbl Try.prog 4 := ⟨fun args w => by kernel_rfl⟩
instance cb5 : Cbl Try.prog 5 := ⟨fun args w => by kernel_rfl⟩
instance cb6 : Cbl Try.prog 6 := ⟨fun args w => by kernel_rfl⟩
instance cb7 : Cbl Try.prog 7 := ⟨fun args w => by kernel_rfl⟩
instance cb8 : Cbl Try.prog 8 := ⟨fun args w => by kernel_rfl⟩
instance cb9 : Cbl Try.prog 9 := ⟨fun args w => by kernel_rfl⟩
instance cb10 : Cbl Try.prog 10 := ⟨fun args w => by kernel_rfl⟩
instance cb11 : Cbl Try.prog 11 := ⟨fun args w => by kernel_rfl⟩
instance cb12 : Cbl Try.prog 12 := ⟨fun args w => by kernel_rfl⟩
instance cb13 : Cbl Try.prog 13 := ⟨fun args w => by kernel_rfl⟩
instance cb14 : Cbl Try.prog 14 := ⟨fun args w => by kernel_rfl⟩
instance cb15 : Cbl Try.prog 15 := ⟨fun args w => by kernel_rfl⟩
instance cb16 : Cbl Try.prog 16 := ⟨fun args w => by kernel_rfl⟩
instance cb17 : Cbl Try.prog 17 := ⟨fun args w => by kernel_rfl⟩
instance cb18 : Cbl Try.prog 18 := ⟨fun args w => by kernel_rfl⟩
instance cb19 : Cbl Try.prog 19 := ⟨fun args w => by kernel_rfl⟩
instance cb20 : Cbl Try.prog 20 := ⟨fun args w => by kernel_rfl⟩
instance cb21 : Cbl Try.prog 21 := ⟨fun args w => by kernel_rfl⟩
instance cb22 : Cbl Try.prog 22 := ⟨fun args w => by kernel_rfl⟩
instance cb23 : Cbl Try.prog 23 := ⟨fun args w => by kernel_rfl⟩
instance cb24 : Cbl Try.prog 24 := ⟨fun args w => by kernel_rfl⟩
instance cb25 : Cbl Try.prog 25 := ⟨fun args w => by kernel_rfl⟩
instance cb26 : Cbl Try.prog 26 := ⟨fun args w => by kernel_rfl⟩
instance cb27 : Cbl Try.prog 27 := ⟨fun args w => by kernel_rfl⟩
instance cb28 : Cbl Try.prog 28 := ⟨fun args w => by kernel_rfl⟩
instance cb29 : Cbl Try.prog 29 := ⟨fun args w => by kernel_rfl⟩
instance cb30 : Cbl Try.prog 30 := ⟨fun args w => by kernel_rfl⟩
instance cb31 : Cbl Try.prog 31 := ⟨fun args w => by kernel_rfl⟩
instance cb32 : Cbl Try.prog 32 := ⟨fun args w => by kernel_rfl⟩
instance cb33 : Cbl Try.prog 33 := ⟨fun args w => by kernel_rfl⟩
end Go.Proofs.Ytphlaojoehmhaaa
