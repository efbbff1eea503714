/- Facts on the types and the functions of this seat's translation, by program: what a type's zero value is, where a struct's fields lie, that a function can be called. -/
import Derived.Test.YtkbkmngbenohkaaOwLib
namespace Go.Proofs.Ytkbkmngbenohkaa

instance ty1 : Ty Try.prog 1 false [.nilFunc] := Ty.of (bytes := 8) (.nilFunc) Try.underlying1 rfl (by kernel_rfl) rfl (by simp [Value.oneCell'])
instance ty3 : Ty Try.prog 3 false [.int .i64 0] := Ty.of (bytes := 8) (.int .i64 0) Try.underlying3 rfl (by kernel_rfl) rfl (by simp [Value.oneCell'])
instance ty4 : Ty Try.prog 4 false [.bool false] := Ty.of (bytes := 1) (.bool false) Try.underlying4 rfl (by kernel_rfl) rfl (by simp [Value.oneCell'])
instance ty5 : Ty Try.prog 5 false [.int .u8 0] := Ty.of (bytes := 1) (.int .u8 0) Try.underlying5 rfl (by kernel_rfl) rfl (by simp [Value.oneCell'])
instance ty9 : Ty Try.prog 9 false [.string ByteArray.empty] := Ty.of (bytes := 16) (.string ByteArray.empty) Try.underlying9 rfl (by kernel_rfl) rfl (by simp [Value.oneCell'])
instance ty20 : Ty Try.prog 20 false [.nilIface] := Ty.of (bytes := 16) (.nilIface) Try.underlying20 rfl (by kernel_rfl) rfl (by simp [Value.oneCell'])
instance ty22 : Ty Try.prog 22 false [.slice none 0 0] := Ty.of (bytes := 24) (.slice none 0 0) Try.underlying22 rfl (by kernel_rfl) rfl (by simp [Value.oneCell'])
instance ty23 : Ty Try.prog 23 false [.pointer none] := Ty.of (bytes := 8) (.pointer none) Try.underlying23 rfl (by kernel_rfl) rfl (by simp [Value.oneCell'])
instance ty24 : Ty Try.prog 24 false [.int .i64 0] := Ty.of (bytes := 8) (.int .i64 0) Try.underlying24 rfl (by kernel_rfl) rfl (by simp [Value.oneCell'])
instance ty29 : Ty Try.prog 29 false [.slice none 0 0] := Ty.of (bytes := 24) (.slice none 0 0) Try.underlying29 rfl (by kernel_rfl) rfl (by simp [Value.oneCell'])
instance ty31 : Ty Try.prog 31 false [.slice none 0 0] := Ty.of (bytes := 24) (.slice none 0 0) Try.underlying31 rfl (by kernel_rfl) rfl (by simp [Value.oneCell'])
instance ty33 : Ty Try.prog 33 true [.int .i64 0, .slice none 0 0] := Ty.of (bytes := 32) (.agg #[.int .i64 0, .slice none 0 0]) Try.underlying33 rfl (by kernel_rfl) rfl (by simp [Value.oneCell'])
instance ty37 : Ty Try.prog 37 false [.nilFunc] := Ty.of (bytes := 8) (.nilFunc) Try.underlying37 rfl (by kernel_rfl) rfl (by simp [Value.oneCell'])
instance ty38 : Ty Try.prog 38 true [.int .i64 0, .int .i64 0] := Ty.of (bytes := 16) (.agg #[.int .i64 0, .int .i64 0]) Try.underlying38 rfl (by kernel_rfl) rfl (by simp [Value.oneCell'])
instance ty60 : Ty Try.prog 60 false [.slice none 0 0] := Ty.of (bytes := 24) (.slice none 0 0) Try.underlying60 rfl (by kernel_rfl) rfl (by simp [Value.oneCell'])
instance ty71 : Ty Try.prog 71 false [.slice none 0 0] := Ty.of (bytes := 24) (.slice none 0 0) Try.underlying71 rfl (by kernel_rfl) rfl (by simp [Value.oneCell'])
instance ty75 : Ty Try.prog 75 true [.int .i64 0, .slice none 0 0] := Ty.of (bytes := 32) (.agg #[.int .i64 0, .slice none 0 0]) Try.underlying75 rfl (by kernel_rfl) rfl (by simp [Value.oneCell'])
instance ty76 : Ty Try.prog 76 false [.slice none 0 0] := Ty.of (bytes := 24) (.slice none 0 0) Try.underlying76 rfl (by kernel_rfl) rfl (by simp [Value.oneCell'])
instance ty77 : Ty Try.prog 77 true [.int .i64 0, .slice none 0 0] := Ty.of (bytes := 32) (.agg #[.int .i64 0, .slice none 0 0]) Try.underlying77 rfl (by kernel_rfl) rfl (by simp [Value.oneCell'])
instance ty100 : Ty Try.prog 100 false [.nilFunc] := Ty.of (bytes := 8) (.nilFunc) Try.underlying100 rfl (by kernel_rfl) rfl (by simp [Value.oneCell'])
instance ty102 : Ty Try.prog 102 false [.slice none 0 0] := Ty.of (bytes := 24) (.slice none 0 0) Try.underlying102 rfl (by kernel_rfl) rfl (by simp [Value.oneCell'])
instance ty104 : Ty Try.prog 104 true [.int .i64 0, .slice none 0 0] := Ty.of (bytes := 32) (.agg #[.int .i64 0, .slice none 0 0]) Try.underlying104 rfl (by kernel_rfl) rfl (by simp [Value.oneCell'])
instance ty105 : Ty Try.prog 105 false [.nilFunc] := Ty.of (bytes := 8) (.nilFunc) Try.underlying105 rfl (by kernel_rfl) rfl (by simp [Value.oneCell'])
instance ty106 : Ty Try.prog 106 false [.nilFunc] := Ty.of (bytes := 8) (.nilFunc) Try.underlying106 rfl (by kernel_rfl) rfl (by simp [Value.oneCell'])
instance ty109 : Ty Try.prog 109 false [.slice none 0 0] := Ty.of (bytes := 24) (.slice none 0 0) Try.underlying109 rfl (by kernel_rfl) rfl (by simp [Value.oneCell'])
instance ty110 : Ty Try.prog 110 false [.nilFunc] := Ty.of (bytes := 8) (.nilFunc) Try.underlying110 rfl (by kernel_rfl) rfl (by simp [Value.oneCell'])
instance ty112 : Ty Try.prog 112 false [.slice none 0 0] := Ty.of (bytes := 24) (.slice none 0 0) Try.underlying112 rfl (by kernel_rfl) rfl (by simp [Value.oneCell'])
instance ty114 : Ty Try.prog 114 false [.nilFunc] := Ty.of (bytes := 8) (.nilFunc) Try.underlying114 rfl (by kernel_rfl) rfl (by simp [Value.oneCell'])
instance ty116 : Ty Try.prog 116 false [.pointer none] := Ty.of (bytes := 8) (.pointer none) Try.underlying116 rfl (by kernel_rfl) rfl (by simp [Value.oneCell'])
instance ty117 : Ty Try.prog 117 false [.slice none 0 0] := Ty.of (bytes := 24) (.slice none 0 0) Try.underlying117 rfl (by kernel_rfl) rfl (by simp [Value.oneCell'])
instance ty124 : Ty Try.prog 124 false [.int .u64 0] := Ty.of (bytes := 8) (.int .u64 0) Try.underlying124 rfl (by kernel_rfl) rfl (by simp [Value.oneCell'])
instance ty140 : Ty Try.prog 140 true [.slice none 0 0, .int .i64 0, .slice none 0 0, .slice none 0 0] := Ty.of (bytes := 80) (.agg #[.slice none 0 0, .int .i64 0, .slice none 0 0, .slice none 0 0]) Try.underlying140 rfl (by kernel_rfl) rfl (by simp [Value.oneCell'])
instance ty150 : Ty Try.prog 150 false [.nilIface] := Ty.of (bytes := 16) (.nilIface) Try.underlying150 rfl (by kernel_rfl) rfl (by simp [Value.oneCell'])
instance el22 : Elem Try.prog 22 38 2 16 [.int .i64 0, .int .i64 0] := Elem.of (.agg #[.int .i64 0, .int .i64 0]) Try.underlying22 (by kernel_rfl) rfl rfl (by decide) (by decide) (by simp [Value.oneCell'])
instance el29 : Elem Try.prog 29 3 1 8 [.int .i64 0] := Elem.of (.int .i64 0) Try.underlying29 (by kernel_rfl) rfl rfl (by decide) (by decide) (by simp [Value.oneCell'])
instance el31 : Elem Try.prog 31 112 1 24 [.slice none 0 0] := Elem.of (.slice none 0 0) Try.underlying31 (by kernel_rfl) rfl rfl (by decide) (by decide) (by simp [Value.oneCell'])
instance el60 : Elem Try.prog 60 29 1 24 [.slice none 0 0] := Elem.of (.slice none 0 0) Try.underlying60 (by kernel_rfl) rfl rfl (by decide) (by decide) (by simp [Value.oneCell'])
instance el71 : Elem Try.prog 71 75 2 32 [.int .i64 0, .slice none 0 0] := Elem.of (.agg #[.int .i64 0, .slice none 0 0]) Try.underlying71 (by kernel_rfl) rfl rfl (by decide) (by decide) (by simp [Value.oneCell'])
instance el76 : Elem Try.prog 76 77 2 32 [.int .i64 0, .slice none 0 0] := Elem.of (.agg #[.int .i64 0, .slice none 0 0]) Try.underlying76 (by kernel_rfl) rfl rfl (by decide) (by decide) (by simp [Value.oneCell'])
instance el102 : Elem Try.prog 102 109 1 24 [.slice none 0 0] := Elem.of (.slice none 0 0) Try.underlying102 (by kernel_rfl) rfl rfl (by decide) (by decide) (by simp [Value.oneCell'])
instance el109 : Elem Try.prog 109 124 1 8 [.int .u64 0] := Elem.of (.int .u64 0) Try.underlying109 (by kernel_rfl) rfl rfl (by decide) (by decide) (by simp [Value.oneCell'])
instance el112 : Elem Try.prog 112 4 1 1 [.bool false] := Elem.of (.bool false) Try.underlying112 (by kernel_rfl) rfl rfl (by decide) (by decide) (by simp [Value.oneCell'])
instance el117 : Elem Try.prog 117 3 1 8 [.int .i64 0] := Elem.of (.int .i64 0) Try.underlying117 (by kernel_rfl) rfl rfl (by decide) (by decide) (by simp [Value.oneCell'])
instance fl33x0 : Fld Try.prog 33 0 0 := ⟨fun ad w => by kernel_rfl⟩
instance fv33x0 : Fvl Try.prog 33 0 0 false 1 := Fvl.of Try.underlying33 rfl rfl ty3 rfl
instance fl33x1 : Fld Try.prog 33 1 1 := ⟨fun ad w => by kernel_rfl⟩
instance fv33x1 : Fvl Try.prog 33 1 1 false 1 := Fvl.of Try.underlying33 rfl rfl ty31 rfl
instance fl75x0 : Fld Try.prog 75 0 0 := ⟨fun ad w => by kernel_rfl⟩
instance fv75x0 : Fvl Try.prog 75 0 0 false 1 := Fvl.of Try.underlying75 rfl rfl ty3 rfl
instance fl75x1 : Fld Try.prog 75 1 1 := ⟨fun ad w => by kernel_rfl⟩
instance fv75x1 : Fvl Try.prog 75 1 1 false 1 := Fvl.of Try.underlying75 rfl rfl ty29 rfl
instance fl77x0 : Fld Try.prog 77 0 0 := ⟨fun ad w => by kernel_rfl⟩
instance fv77x0 : Fvl Try.prog 77 0 0 false 1 := Fvl.of Try.underlying77 rfl rfl ty3 rfl
instance fl77x1 : Fld Try.prog 77 1 1 := ⟨fun ad w => by kernel_rfl⟩
instance fv77x1 : Fvl Try.prog 77 1 1 false 1 := Fvl.of Try.underlying77 rfl rfl ty29 rfl
instance fl104x0 : Fld Try.prog 104 0 0 := ⟨fun ad w => by kernel_rfl⟩
instance fv104x0 : Fvl Try.prog 104 0 0 false 1 := Fvl.of Try.underlying104 rfl rfl ty3 rfl
instance fl104x1 : Fld Try.prog 104 1 1 := ⟨fun ad w => by kernel_rfl⟩
instance fv104x1 : Fvl Try.prog 104 1 1 false 1 := Fvl.of Try.underlying104 rfl rfl ty102 rfl
instance fl140x0 : Fld Try.prog 140 0 0 := ⟨fun ad w => by kernel_rfl⟩
instance fv140x0 : Fvl Try.prog 140 0 0 false 1 := Fvl.of Try.underlying140 rfl rfl ty60 rfl
instance fl140x1 : Fld Try.prog 140 1 1 := ⟨fun ad w => by kernel_rfl⟩
instance fv140x1 : Fvl Try.prog 140 1 1 false 1 := Fvl.of Try.underlying140 rfl rfl ty3 rfl
instance fl140x2 : Fld Try.prog 140 2 2 := ⟨fun ad w => by kernel_rfl⟩
instance fv140x2 : Fvl Try.prog 140 2 2 false 1 := Fvl.of Try.underlying140 rfl rfl ty29 rfl
instance fl140x3 : Fld Try.prog 140 3 3 := ⟨fun ad w => by kernel_rfl⟩
instance fv140x3 : Fvl Try.prog 140 3 3 false 1 := Fvl.of Try.underlying140 rfl rfl ty29 rfl
instance cb7 : Cbl Try.prog 7 := ⟨fun args w => by kernel_rfl⟩
instance cb28 : Cbl Try.prog 28 := ⟨fun args w => by kernel_rfl⟩
instance cb29 : Cbl Try.prog 29 := ⟨fun args w => by kernel_rfl⟩
instance cb30 : Cbl Try.prog 30 := ⟨fun args w => by kernel_rfl⟩
instance cb31 : Cbl Try.prog 31 := ⟨fun args w => by kernel_rfl⟩
instance cb32 : Cbl Try.prog 32 := ⟨fun args w => by kernel_rfl⟩
instance cb33 : Cbl Try.prog 33 := ⟨fun args w => by kernel_rfl⟩
instance cb34 : Cbl Try.prog 34 := ⟨fun args w => by kernel_rfl⟩
instance cb35 : Cbl Try.prog 35 := ⟨fun args w => by kernel_rfl⟩
instance cb36 : Cbl Try.prog 36 := ⟨fun args w => by kernel_rfl⟩
instance cb37 : Cbl Try.prog 37 := ⟨fun args w => by kernel_rfl⟩
instance cb38 : Cbl Try.prog 38 := ⟨fun args w => by kernel_rfl⟩
instance cb39 : Cbl Try.prog 39 := ⟨fun args w => by kernel_rfl⟩
instance cb40 : Cbl Try.prog 40 := ⟨fun args w => by kernel_rfl⟩
instance cb42 : Cbl Try.prog 42 := ⟨fun args w => by kernel_rfl⟩
instance cb43 : Cbl Try.prog 43 := ⟨fun args w => by kernel_rfl⟩
instance cb44 : Cbl Try.prog 44 := ⟨fun args w => by kernel_rfl⟩
instance cb45 : Cbl Try.prog 45 := ⟨fun args w => by kernel_rfl⟩
instance cb50 : Cbl Try.prog 50 := ⟨fun args w => by kernel_rfl⟩
instance cb53 : Cbl Try.prog 53 := ⟨fun args w => by kernel_rfl⟩
instance cb66 : Cbl Try.prog 66 := ⟨fun args w => by kernel_rfl⟩
instance cb67 : Cbl Try.prog 67 := ⟨fun args w => by kernel_rfl⟩
instance cb74 : Cbl Try.prog 74 := ⟨fun args w => by kernel_rfl⟩
instance cb75 : Cbl Try.prog 75 := ⟨fun args w => by kernel_rfl⟩
instance cb77 : Cbl Try.prog 77 := ⟨fun args w => by kernel_rfl⟩
instance cb80 : Cbl Try.prog 80 := ⟨fun args w => by kernel_rfl⟩
instance cb81 : Cbl Try.prog 81 := ⟨fun args w => by kernel_rfl⟩
instance cb82 : Cbl Try.prog 82 := ⟨fun args w => by kernel_rfl⟩
instance cb83 : Cbl Try.prog 83 := ⟨fun args w => by kernel_rfl⟩
instance cb84 : Cbl Try.prog 84 := ⟨fun args w => by kernel_rfl⟩
instance cb85 : Cbl Try.prog 85 := ⟨fun args w => by kernel_rfl⟩
instance cb86 : Cbl Try.prog 86 := ⟨fun args w => by kernel_rfl⟩
instance cb87 : Cbl Try.prog 87 := ⟨fun args w => by kernel_rfl⟩
instance cb88 : Cbl Try.prog 88 := ⟨fun args w => by kernel_rfl⟩
instance cb89 : Cbl Try.prog 89 := ⟨fun args w => by kernel_rfl⟩
instance cb92 : Cbl Try.prog 92 := ⟨fun args w => by kernel_rfl⟩
instance cb93 : Cbl Try.prog 93 := ⟨fun args w => by kernel_rfl⟩
instance cb103 : Cbl Try.prog 103 := ⟨fun args w => by kernel_rfl⟩
instance cb104 : Cbl Try.prog 104 := ⟨fun args w => by kernel_rfl⟩
instance cb113 : Cbl Try.prog 113 := ⟨fun args w => by kernel_rfl⟩
instance cb114 : Cbl Try.prog 114 := ⟨fun args w => by kernel_rfl⟩
instance cb115 : Cbl Try.prog 115 := ⟨fun args w => by kernel_rfl⟩
instance cb116 : Cbl Try.prog 116 := ⟨fun args w => by kernel_rfl⟩
instance cb117 : Cbl Try.prog 117 := ⟨fun args w => by kernel_rfl⟩
instance cb118 : Cbl Try.prog 118 := ⟨fun args w => by kernel_rfl⟩
instance cb119 : Cbl Try.prog 119 := ⟨fun args w => by kernel_rfl⟩
instance cb120 : Cbl Try.prog 120 := ⟨fun args w => by kernel_rfl⟩
instance cb122 : Cbl Try.prog 122 := ⟨fun args w => by kernel_rfl⟩
instance cb123 : Cbl Try.prog 123 := ⟨fun args w => by kernel_rfl⟩
instance cb135 : Cbl Try.prog 135 := ⟨fun args w => by kernel_rfl⟩
instance cb136 : Cbl Try.prog 136 := ⟨fun args w => by kernel_rfl⟩
instance cb139 : Cbl Try.prog 139 := ⟨fun args w => by kernel_rfl⟩
instance cb140 : Cbl Try.prog 140 := ⟨fun args w => by kernel_rfl⟩
instance cb146 : Cbl Try.prog 146 := ⟨fun args w => by kernel_rfl⟩
instance cb151 : Cbl Try.prog 151 := ⟨fun args w => by kernel_rfl⟩
end Go.Proofs.Ytkbkmngbenohkaa
