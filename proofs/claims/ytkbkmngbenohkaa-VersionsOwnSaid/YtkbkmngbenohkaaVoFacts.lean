/- Facts on the types and the functions of this seat's translation, by program: what a type's zero value is, where a struct's fields lie, that a function can be called. -/
import Derived.Test.YtkbkmngbenohkaaVoLib
namespace Go.Proofs.Ytkbkmngbenohkaa

instance ty1 : Ty Try.prog 1 false [.nilFunc] := Ty.of (bytes := 8) (.nilFunc) Try.underlying1 rfl (by kernel_rfl) rfl (by simp [Value.oneCell'])
instance ty2 : Ty Try.prog 2 false [.int .i64 0] := Ty.of (bytes := 8) (.int .i64 0) Try.underlying2 rfl (by kernel_rfl) rfl (by simp [Value.oneCell'])
instance ty3 : Ty Try.prog 3 false [.int .i64 0] := Ty.of (bytes := 8) (.int .i64 0) Try.underlying3 rfl (by kernel_rfl) rfl (by simp [Value.oneCell'])
instance ty4 : Ty Try.prog 4 false [.bool false] := Ty.of (bytes := 1) (.bool false) Try.underlying4 rfl (by kernel_rfl) rfl (by simp [Value.oneCell'])
instance ty5 : Ty Try.prog 5 false [.int .u8 0] := Ty.of (bytes := 1) (.int .u8 0) Try.underlying5 rfl (by kernel_rfl) rfl (by simp [Value.oneCell'])
instance ty9 : Ty Try.prog 9 false [.string ByteArray.empty] := Ty.of (bytes := 16) (.string ByteArray.empty) Try.underlying9 rfl (by kernel_rfl) rfl (by simp [Value.oneCell'])
instance ty12 : Ty Try.prog 12 false [.int .u64 0] := Ty.of (bytes := 8) (.int .u64 0) Try.underlying12 rfl (by kernel_rfl) rfl (by simp [Value.oneCell'])
instance ty20 : Ty Try.prog 20 false [.nilIface] := Ty.of (bytes := 16) (.nilIface) Try.underlying20 rfl (by kernel_rfl) rfl (by simp [Value.oneCell'])
instance ty22 : Ty Try.prog 22 false [.slice none 0 0] := Ty.of (bytes := 24) (.slice none 0 0) Try.underlying22 rfl (by kernel_rfl) rfl (by simp [Value.oneCell'])
instance ty23 : Ty Try.prog 23 false [.pointer none] := Ty.of (bytes := 8) (.pointer none) Try.underlying23 rfl (by kernel_rfl) rfl (by simp [Value.oneCell'])
instance ty24 : Ty Try.prog 24 false [.int .i64 0] := Ty.of (bytes := 8) (.int .i64 0) Try.underlying24 rfl (by kernel_rfl) rfl (by simp [Value.oneCell'])
instance ty29 : Ty Try.prog 29 false [.slice none 0 0] := Ty.of (bytes := 24) (.slice none 0 0) Try.underlying29 rfl (by kernel_rfl) rfl (by simp [Value.oneCell'])
instance ty31 : Ty Try.prog 31 false [.slice none 0 0] := Ty.of (bytes := 24) (.slice none 0 0) Try.underlying31 rfl (by kernel_rfl) rfl (by simp [Value.oneCell'])
instance ty32 : Ty Try.prog 32 true [.int .i64 0, .slice none 0 0] := Ty.of (bytes := 32) (.agg #[.int .i64 0, .slice none 0 0]) Try.underlying32 rfl (by kernel_rfl) rfl (by simp [Value.oneCell'])
instance ty38 : Ty Try.prog 38 true [.int .i64 0, .int .i64 0] := Ty.of (bytes := 16) (.agg #[.int .i64 0, .int .i64 0]) Try.underlying38 rfl (by kernel_rfl) rfl (by simp [Value.oneCell'])
instance ty55 : Ty Try.prog 55 false [.nilFunc] := Ty.of (bytes := 8) (.nilFunc) Try.underlying55 rfl (by kernel_rfl) rfl (by simp [Value.oneCell'])
instance ty60 : Ty Try.prog 60 false [.slice none 0 0] := Ty.of (bytes := 24) (.slice none 0 0) Try.underlying60 rfl (by kernel_rfl) rfl (by simp [Value.oneCell'])
instance ty68 : Ty Try.prog 68 false [.pointer none] := Ty.of (bytes := 8) (.pointer none) Try.underlying68 rfl (by kernel_rfl) rfl (by simp [Value.oneCell'])
instance ty71 : Ty Try.prog 71 false [.slice none 0 0] := Ty.of (bytes := 24) (.slice none 0 0) Try.underlying71 rfl (by kernel_rfl) rfl (by simp [Value.oneCell'])
instance ty75 : Ty Try.prog 75 true [.int .i64 0, .slice none 0 0] := Ty.of (bytes := 32) (.agg #[.int .i64 0, .slice none 0 0]) Try.underlying75 rfl (by kernel_rfl) rfl (by simp [Value.oneCell'])
instance ty76 : Ty Try.prog 76 false [.slice none 0 0] := Ty.of (bytes := 24) (.slice none 0 0) Try.underlying76 rfl (by kernel_rfl) rfl (by simp [Value.oneCell'])
instance ty77 : Ty Try.prog 77 true [.int .i64 0, .slice none 0 0] := Ty.of (bytes := 32) (.agg #[.int .i64 0, .slice none 0 0]) Try.underlying77 rfl (by kernel_rfl) rfl (by simp [Value.oneCell'])
instance ty102 : Ty Try.prog 102 false [.slice none 0 0] := Ty.of (bytes := 24) (.slice none 0 0) Try.underlying102 rfl (by kernel_rfl) rfl (by simp [Value.oneCell'])
instance ty104 : Ty Try.prog 104 true [.int .i64 0, .slice none 0 0] := Ty.of (bytes := 32) (.agg #[.int .i64 0, .slice none 0 0]) Try.underlying104 rfl (by kernel_rfl) rfl (by simp [Value.oneCell'])
instance ty109 : Ty Try.prog 109 false [.slice none 0 0] := Ty.of (bytes := 24) (.slice none 0 0) Try.underlying109 rfl (by kernel_rfl) rfl (by simp [Value.oneCell'])
instance ty110 : Ty Try.prog 110 false [.nilFunc] := Ty.of (bytes := 8) (.nilFunc) Try.underlying110 rfl (by kernel_rfl) rfl (by simp [Value.oneCell'])
instance ty116 : Ty Try.prog 116 false [.pointer none] := Ty.of (bytes := 8) (.pointer none) Try.underlying116 rfl (by kernel_rfl) rfl (by simp [Value.oneCell'])
instance ty117 : Ty Try.prog 117 false [.slice none 0 0] := Ty.of (bytes := 24) (.slice none 0 0) Try.underlying117 rfl (by kernel_rfl) rfl (by simp [Value.oneCell'])
instance ty121 : Ty Try.prog 121 false [.slice none 0 0] := Ty.of (bytes := 24) (.slice none 0 0) Try.underlying121 rfl (by kernel_rfl) rfl (by simp [Value.oneCell'])
instance ty123 : Ty Try.prog 123 true [.slice none 0 0, .slice none 0 0] := Ty.of (bytes := 48) (.agg #[.slice none 0 0, .slice none 0 0]) Try.underlying123 rfl (by kernel_rfl) rfl (by simp [Value.oneCell'])
instance ty124 : Ty Try.prog 124 false [.int .u64 0] := Ty.of (bytes := 8) (.int .u64 0) Try.underlying124 rfl (by kernel_rfl) rfl (by simp [Value.oneCell'])
instance ty125 : Ty Try.prog 125 false [.int .u64 0] := Ty.of (bytes := 8) (.int .u64 0) Try.underlying125 rfl (by kernel_rfl) rfl (by simp [Value.oneCell'])
instance ty140 : Ty Try.prog 140 true [.slice none 0 0, .int .i64 0, .slice none 0 0, .slice none 0 0] := Ty.of (bytes := 80) (.agg #[.slice none 0 0, .int .i64 0, .slice none 0 0, .slice none 0 0]) Try.underlying140 rfl (by kernel_rfl) rfl (by simp [Value.oneCell'])
instance ty150 : Ty Try.prog 150 false [.nilIface] := Ty.of (bytes := 16) (.nilIface) Try.underlying150 rfl (by kernel_rfl) rfl (by simp [Value.oneCell'])
instance ty163 : Ty Try.prog 163 false [.int .u64 0] := Ty.of (bytes := 8) (.int .u64 0) Try.underlying163 rfl (by kernel_rfl) rfl (by simp [Value.oneCell'])
instance ty165 : Ty Try.prog 165 false [.int .i64 0] := Ty.of (bytes := 8) (.int .i64 0) Try.underlying165 rfl (by kernel_rfl) rfl (by simp [Value.oneCell'])
instance ty172 : Ty Try.prog 172 false [.int .u32 0] := Ty.of (bytes := 4) (.int .u32 0) Try.underlying172 rfl (by kernel_rfl) rfl (by simp [Value.oneCell'])
instance el22 : Elem Try.prog 22 38 2 16 [.int .i64 0, .int .i64 0] := Elem.of (.agg #[.int .i64 0, .int .i64 0]) Try.underlying22 (by kernel_rfl) rfl rfl (by decide) (by decide) (by simp [Value.oneCell'])
instance el29 : Elem Try.prog 29 3 1 8 [.int .i64 0] := Elem.of (.int .i64 0) Try.underlying29 (by kernel_rfl) rfl rfl (by decide) (by decide) (by simp [Value.oneCell'])
instance el60 : Elem Try.prog 60 29 1 24 [.slice none 0 0] := Elem.of (.slice none 0 0) Try.underlying60 (by kernel_rfl) rfl rfl (by decide) (by decide) (by simp [Value.oneCell'])
instance el71 : Elem Try.prog 71 75 2 32 [.int .i64 0, .slice none 0 0] := Elem.of (.agg #[.int .i64 0, .slice none 0 0]) Try.underlying71 (by kernel_rfl) rfl rfl (by decide) (by decide) (by simp [Value.oneCell'])
instance el76 : Elem Try.prog 76 77 2 32 [.int .i64 0, .slice none 0 0] := Elem.of (.agg #[.int .i64 0, .slice none 0 0]) Try.underlying76 (by kernel_rfl) rfl rfl (by decide) (by decide) (by simp [Value.oneCell'])
instance el102 : Elem Try.prog 102 109 1 24 [.slice none 0 0] := Elem.of (.slice none 0 0) Try.underlying102 (by kernel_rfl) rfl rfl (by decide) (by decide) (by simp [Value.oneCell'])
instance el109 : Elem Try.prog 109 124 1 8 [.int .u64 0] := Elem.of (.int .u64 0) Try.underlying109 (by kernel_rfl) rfl rfl (by decide) (by decide) (by simp [Value.oneCell'])
instance el117 : Elem Try.prog 117 3 1 8 [.int .i64 0] := Elem.of (.int .i64 0) Try.underlying117 (by kernel_rfl) rfl rfl (by decide) (by decide) (by simp [Value.oneCell'])
instance el121 : Elem Try.prog 121 125 1 8 [.int .u64 0] := Elem.of (.int .u64 0) Try.underlying121 (by kernel_rfl) rfl rfl (by decide) (by decide) (by simp [Value.oneCell'])
instance fl32x0 : Fld Try.prog 32 0 0 := ⟨fun ad w => by kernel_rfl⟩
instance fv32x0 : Fvl Try.prog 32 0 0 false 1 := Fvl.of Try.underlying32 rfl rfl ty3 rfl
instance fl32x1 : Fld Try.prog 32 1 1 := ⟨fun ad w => by kernel_rfl⟩
instance fv32x1 : Fvl Try.prog 32 1 1 false 1 := Fvl.of Try.underlying32 rfl rfl ty31 rfl
instance fl75x0 : Fld Try.prog 75 0 0 := ⟨fun ad w => by kernel_rfl⟩
instance fv75x0 : Fvl Try.prog 75 0 0 false 1 := Fvl.of Try.underlying75 rfl rfl ty3 rfl
instance fl75x1 : Fld Try.prog 75 1 1 := ⟨fun ad w => by kernel_rfl⟩
instance fv75x1 : Fvl Try.prog 75 1 1 false 1 := Fvl.of Try.underlying75 rfl rfl ty29 rfl
instance fl77x0 : Fld Try.prog 77 0 0 := ⟨fun ad w => by kernel_rfl⟩
instance fv77x0 : Fvl Try.prog 77 0 0 false 1 := Fvl.of Try.underlying77 rfl rfl ty3 rfl
instance fl77x1 : Fld Try.prog 77 1 1 := ⟨fun ad w => by kernel_rfl⟩
instance fv77x1 : Fvl Try.prog 77 1 1 false 1 := Fvl.of Try.underlying77 rfl rfl ty29 rfl
instance fl104x0 : Fld Try.prog 104 0 0 := ⟨fun ad w => by kernel_rfl⟩
instance fv104x0 : Fvl Try.prog 104 0 0 false 1 := Fvl.of Try.underlying104 rfl rfl ty3 rfl
instance fl104x1 : Fld Try.prog 104 1 1 := ⟨fun ad w => by kernel_rfl⟩
instance fv104x1 : Fvl Try.prog 104 1 1 false 1 := Fvl.of Try.underlying104 rfl rfl ty102 rfl
instance fl123x0 : Fld Try.prog 123 0 0 := ⟨fun ad w => by kernel_rfl⟩
instance fv123x0 : Fvl Try.prog 123 0 0 false 1 := Fvl.of Try.underlying123 rfl rfl ty121 rfl
instance fl123x1 : Fld Try.prog 123 1 1 := ⟨fun ad w => by kernel_rfl⟩
instance fv123x1 : Fvl Try.prog 123 1 1 false 1 := Fvl.of Try.underlying123 rfl rfl ty121 rfl
instance fl140x0 : Fld Try.prog 140 0 0 := ⟨fun ad w => by kernel_rfl⟩
instance fv140x0 : Fvl Try.prog 140 0 0 false 1 := Fvl.of Try.underlying140 rfl rfl ty60 rfl
instance fl140x1 : Fld Try.prog 140 1 1 := ⟨fun ad w => by kernel_rfl⟩
instance fv140x1 : Fvl Try.prog 140 1 1 false 1 := Fvl.of Try.underlying140 rfl rfl ty3 rfl
instance fl140x2 : Fld Try.prog 140 2 2 := ⟨fun ad w => by kernel_rfl⟩
instance fv140x2 : Fvl Try.prog 140 2 2 false 1 := Fvl.of Try.underlying140 rfl rfl ty29 rfl
instance fl140x3 : Fld Try.prog 140 3 3 := ⟨fun ad w => by kernel_rfl⟩
instance fv140x3 : Fvl Try.prog 140 3 3 false 1 := Fvl.of Try.underlying140 rfl rfl ty29 rfl
instance cb17 : Cbl Try.prog 17 := ⟨fun args w => by kernel_rfl⟩
instance cb32 : Cbl Try.prog 32 := ⟨fun args w => by kernel_rfl⟩
instance cb33 : Cbl Try.prog 33 := ⟨fun args w => by kernel_rfl⟩
instance cb37 : Cbl Try.prog 37 := ⟨fun args w => by kernel_rfl⟩
instance cb38 : Cbl Try.prog 38 := ⟨fun args w => by kernel_rfl⟩
instance cb40 : Cbl Try.prog 40 := ⟨fun args w => by kernel_rfl⟩
instance cb42 : Cbl Try.prog 42 := ⟨fun args w => by kernel_rfl⟩
instance cb54 : Cbl Try.prog 54 := ⟨fun args w => by kernel_rfl⟩
instance cb56 : Cbl Try.prog 56 := ⟨fun args w => by kernel_rfl⟩
instance cb57 : Cbl Try.prog 57 := ⟨fun args w => by kernel_rfl⟩
instance cb58 : Cbl Try.prog 58 := ⟨fun args w => by kernel_rfl⟩
instance cb59 : Cbl Try.prog 59 := ⟨fun args w => by kernel_rfl⟩
instance cb60 : Cbl Try.prog 60 := ⟨fun args w => by kernel_rfl⟩
instance cb61 : Cbl Try.prog 61 := ⟨fun args w => by kernel_rfl⟩
instance cb62 : Cbl Try.prog 62 := ⟨fun args w => by kernel_rfl⟩
instance cb64 : Cbl Try.prog 64 := ⟨fun args w => by kernel_rfl⟩
instance cb65 : Cbl Try.prog 65 := ⟨fun args w => by kernel_rfl⟩
instance cb66 : Cbl Try.prog 66 := ⟨fun args w => by kernel_rfl⟩
instance cb67 : Cbl Try.prog 67 := ⟨fun args w => by kernel_rfl⟩
instance cb68 : Cbl Try.prog 68 := ⟨fun args w => by kernel_rfl⟩
instance cb74 : Cbl Try.prog 74 := ⟨fun args w => by kernel_rfl⟩
instance cb75 : Cbl Try.prog 75 := ⟨fun args w => by kernel_rfl⟩
instance cb77 : Cbl Try.prog 77 := ⟨fun args w => by kernel_rfl⟩
instance cb83 : Cbl Try.prog 83 := ⟨fun args w => by kernel_rfl⟩
instance cb84 : Cbl Try.prog 84 := ⟨fun args w => by kernel_rfl⟩
instance cb90 : Cbl Try.prog 90 := ⟨fun args w => by kernel_rfl⟩
instance cb91 : Cbl Try.prog 91 := ⟨fun args w => by kernel_rfl⟩
instance cb92 : Cbl Try.prog 92 := ⟨fun args w => by kernel_rfl⟩
instance cb93 : Cbl Try.prog 93 := ⟨fun args w => by kernel_rfl⟩
instance cb94 : Cbl Try.prog 94 := ⟨fun args w => by kernel_rfl⟩
instance cb96 : Cbl Try.prog 96 := ⟨fun args w => by kernel_rfl⟩
instance cb97 : Cbl Try.prog 97 := ⟨fun args w => by kernel_rfl⟩
instance cb98 : Cbl Try.prog 98 := ⟨fun args w => by kernel_rfl⟩
instance cb99 : Cbl Try.prog 99 := ⟨fun args w => by kernel_rfl⟩
instance cb100 : Cbl Try.prog 100 := ⟨fun args w => by kernel_rfl⟩
instance cb101 : Cbl Try.prog 101 := ⟨fun args w => by kernel_rfl⟩
instance cb102 : Cbl Try.prog 102 := ⟨fun args w => by kernel_rfl⟩
instance cb103 : Cbl Try.prog 103 := ⟨fun args w => by kernel_rfl⟩
instance cb104 : Cbl Try.prog 104 := ⟨fun args w => by kernel_rfl⟩
instance cb105 : Cbl Try.prog 105 := ⟨fun args w => by kernel_rfl⟩
instance cb113 : Cbl Try.prog 113 := ⟨fun args w => by kernel_rfl⟩
instance cb114 : Cbl Try.prog 114 := ⟨fun args w => by kernel_rfl⟩
instance cb115 : Cbl Try.prog 115 := ⟨fun args w => by kernel_rfl⟩
instance cb116 : Cbl Try.prog 116 := ⟨fun args w => by kernel_rfl⟩
instance cb117 : Cbl Try.prog 117 := ⟨fun args w => by kernel_rfl⟩
instance cb118 : Cbl Try.prog 118 := ⟨fun args w => by kernel_rfl⟩
instance cb121 : Cbl Try.prog 121 := ⟨fun args w => by kernel_rfl⟩
instance cb122 : Cbl Try.prog 122 := ⟨fun args w => by kernel_rfl⟩
instance cb123 : Cbl Try.prog 123 := ⟨fun args w => by kernel_rfl⟩
instance cb124 : Cbl Try.prog 124 := ⟨fun args w => by kernel_rfl⟩
instance cb135 : Cbl Try.prog 135 := ⟨fun args w => by kernel_rfl⟩
instance cb136 : Cbl Try.prog 136 := ⟨fun args w => by kernel_rfl⟩
instance cb137 : Cbl Try.prog 137 := ⟨fun args w => by kernel_rfl⟩
instance cb138 : Cbl Try.prog 138 := ⟨fun args w => by kernel_rfl⟩
instance cb139 : Cbl Try.prog 139 := ⟨fun args w => by kernel_rfl⟩
instance cb140 : Cbl Try.prog 140 := ⟨fun args w => by kernel_rfl⟩
instance cb141 : Cbl Try.prog 141 := ⟨fun args w => by kernel_rfl⟩
instance cb142 : Cbl Try.prog 142 := ⟨fun args w => by kernel_rfl⟩
instance cb143 : Cbl Try.prog 143 := ⟨fun args w => by kernel_rfl⟩
instance cb144 : Cbl Try.prog 144 := ⟨fun args w => by kernel_rfl⟩
instance cb145 : Cbl Try.prog 145 := ⟨fun args w => by kernel_rfl⟩
instance cb146 : Cbl Try.prog 146 := ⟨fun args w => by kernel_rfl⟩
instance cb147 : Cbl Try.prog 147 := ⟨fun args w => by kernel_rfl⟩
instance cb148 : Cbl Try.prog 148 := ⟨fun args w => by kernel_rfl⟩
instance cb149 : Cbl Try.prog 149 := ⟨fun args w => by kernel_rfl⟩
instance cb150 : Cbl Try.prog 150 := ⟨fun args w => by kernel_rfl⟩
instance cb151 : Cbl Try.prog 151 := ⟨fun args w => by kernel_rfl⟩
instance cb157 : Cbl Try.prog 157 := ⟨fun args w => by kernel_rfl⟩
instance cb176 : Cbl Try.prog 176 := ⟨fun args w => by kernel_rfl⟩
instance cb177 : Cbl Try.prog 177 := ⟨fun args w => by kernel_rfl⟩
instance cb178 : Cbl Try.prog 178 := ⟨fun args w => by kernel_rfl⟩
instance cb179 : Cbl Try.prog 179 := ⟨fun args w => by kernel_rfl⟩
end Go.Proofs.Ytkbkmngbenohkaa
