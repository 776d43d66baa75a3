/- Parts of the proof. No condition. -/
import Derived.Test.YtkfnkecgcdhncaaGreatQM0
import Derived.Test.YtkfnkecgcdhncaaGreatQM2
import Derived.Test.YtkfnkecgcdhncaaGreatChecked
import Derived.KernelRfl
import Derived.Shelf.Sort.Plain
import Derived.Shelf.Slices.In.SortNone
import Derived.Shelf.Slices.Cells
namespace Go.Proofs.YtkfnkecgcdhncaaGreat
open Go.RowKit
set_option linter.unusedSimpArgs false
set_option linter.unusedVariables false
instance i2:TyI Tryz.prog 2 ⟨.int .i64,1,8,[.lit (Value.int IntKind.i64 0)]⟩:=⟨⟨Tryz.underlying2,Ok,⟨Value.int IntKind.i64 0,Ok,Ok,Ok,rfl⟩⟩⟩
instance i3:TyI Tryz.prog 3 ⟨.int .i64,1,8,[.lit (Value.int IntKind.i64 0)]⟩:=⟨⟨Tryz.underlying3,Ok,⟨Value.int IntKind.i64 0,Ok,Ok,Ok,rfl⟩⟩⟩
instance i4:TyI Tryz.prog 4 ⟨.bool,1,1,[.lit (Value.bool false)]⟩:=⟨⟨Tryz.underlying4,Ok,⟨Value.bool false,Ok,Ok,Ok,rfl⟩⟩⟩
instance i5:TyI Tryz.prog 5 ⟨.int .u8,1,1,[.lit (Value.int IntKind.u8 0)]⟩:=⟨⟨Tryz.underlying5,Ok,⟨Value.int IntKind.u8 0,Ok,Ok,Ok,rfl⟩⟩⟩
instance i6:TyI Tryz.prog 6 ⟨.int .u8,1,1,[.lit (Value.int IntKind.u8 0)]⟩:=⟨⟨Tryz.underlying6,Ok,⟨Value.int IntKind.u8 0,Ok,Ok,Ok,rfl⟩⟩⟩
instance i7:TyI Tryz.prog 7 ⟨.struct [(0,1),(1,1),(2,1),(3,1)],4,24,[.lit (Value.int IntKind.i64 0),.lit (Value.int IntKind.i64 0),.lit (Value.bool false),.lit (Value.int IntKind.u8 0)]⟩:=⟨⟨⟨_,Tryz.underlying7,Ok,Ok⟩,Ok,⟨Value.agg #[Value.int IntKind.i64 0,Value.int IntKind.i64 0,Value.bool false,Value.int IntKind.u8 0],Ok,Ok,Ok,⟨_,rfl⟩⟩⟩⟩
instance i8:TyI Tryz.prog 8 ⟨.struct [(0,1),(1,1),(2,1),(3,1)],4,24,[.lit (Value.int IntKind.i64 0),.lit (Value.int IntKind.i64 0),.lit (Value.bool false),.lit (Value.int IntKind.u8 0)]⟩:=⟨⟨⟨_,Tryz.underlying8,Ok,Ok⟩,Ok,⟨Value.agg #[Value.int IntKind.i64 0,Value.int IntKind.i64 0,Value.bool false,Value.int IntKind.u8 0],Ok,Ok,Ok,⟨_,rfl⟩⟩⟩⟩
instance i9:TyI Tryz.prog 9 ⟨.str,1,16,[.lit (Value.string { data:=#[] })]⟩:=⟨⟨Tryz.underlying9,Ok,⟨Value.string { data:=#[] },Ok,Ok,Ok,rfl⟩⟩⟩
instance i10:TyI Tryz.prog 10 ⟨.str,1,16,[.lit (Value.string { data:=#[] })]⟩:=⟨⟨Tryz.underlying10,Ok,⟨Value.string { data:=#[] },Ok,Ok,Ok,rfl⟩⟩⟩
instance i11:TyI Tryz.prog 11 ⟨.str,1,16,[.lit (Value.string { data:=#[] })]⟩:=⟨⟨Tryz.underlying11,Ok,⟨Value.string { data:=#[] },Ok,Ok,Ok,rfl⟩⟩⟩
instance i12:TyI Tryz.prog 12 ⟨.int .u64,1,8,[.lit (Value.int IntKind.u64 0)]⟩:=⟨⟨Tryz.underlying12,Ok,⟨Value.int IntKind.u64 0,Ok,Ok,Ok,rfl⟩⟩⟩
instance i13:TyI Tryz.prog 13 ⟨.struct [(0,1),(1,1)],2,24,[.lit (Value.string { data:=#[] }),.lit (Value.int IntKind.u64 0)]⟩:=⟨⟨⟨_,Tryz.underlying13,Ok,Ok⟩,Ok,⟨Value.agg #[Value.string { data:=#[] },Value.int IntKind.u64 0],Ok,Ok,Ok,⟨_,rfl⟩⟩⟩⟩
instance i14:TyI Tryz.prog 14 ⟨.struct [(0,1),(1,1)],2,24,[.lit (Value.string { data:=#[] }),.lit (Value.int IntKind.u64 0)]⟩:=⟨⟨⟨_,Tryz.underlying14,Ok,Ok⟩,Ok,⟨Value.agg #[Value.string { data:=#[] },Value.int IntKind.u64 0],Ok,Ok,Ok,⟨_,rfl⟩⟩⟩⟩
instance i15:TyI Tryz.prog 15 ⟨.ptr 268,1,8,[.lit (Value.pointer none)]⟩:=⟨⟨Tryz.underlying15,Ok,⟨Value.pointer none,Ok,Ok,Ok,rfl⟩⟩⟩
instance i16:TyI Tryz.prog 16 ⟨.ptr 271,1,8,[.lit (Value.pointer none)]⟩:=⟨⟨Tryz.underlying16,Ok,⟨Value.pointer none,Ok,Ok,Ok,rfl⟩⟩⟩
instance i17:TyI Tryz.prog 17 ⟨.ptr 279,1,8,[.lit (Value.pointer none)]⟩:=⟨⟨Tryz.underlying17,Ok,⟨Value.pointer none,Ok,Ok,Ok,rfl⟩⟩⟩
instance i18:TyI Tryz.prog 18 ⟨.struct [(0,1)],1,8,[.lit (Value.pointer none)]⟩:=⟨⟨⟨_,Tryz.underlying18,Ok,Ok⟩,Ok,⟨Value.agg #[Value.pointer none],Ok,Ok,Ok,⟨_,rfl⟩⟩⟩⟩
instance i19:TyI Tryz.prog 19 ⟨.struct [(0,1)],1,8,[.lit (Value.pointer none)]⟩:=⟨⟨⟨_,Tryz.underlying19,Ok,Ok⟩,Ok,⟨Value.agg #[Value.pointer none],Ok,Ok,Ok,⟨_,rfl⟩⟩⟩⟩
instance i21:TyI Tryz.prog 21 ⟨.int .i32,1,4,[.lit (Value.int IntKind.i32 0)]⟩:=⟨⟨Tryz.underlying21,Ok,⟨Value.int IntKind.i32 0,Ok,Ok,Ok,rfl⟩⟩⟩
instance i22:TyI Tryz.prog 22 ⟨.slice 3,1,24,[.lit (Value.slice none 0 0)]⟩:=⟨⟨Tryz.underlying22,Ok,⟨Value.slice none 0 0,Ok,Ok,Ok,rfl⟩⟩⟩
instance i23:TyI Tryz.prog 23 ⟨.slice 111,1,24,[.lit (Value.slice none 0 0)]⟩:=⟨⟨Tryz.underlying23,Ok,⟨Value.slice none 0 0,Ok,Ok,Ok,rfl⟩⟩⟩
instance i24:TyI Tryz.prog 24 ⟨.struct [(0,1),(1,1),(2,1)],3,48,[.lit (Value.string { data:=#[] }),.lit (Value.slice none 0 0),.lit (Value.int IntKind.i64 0)]⟩:=⟨⟨⟨_,Tryz.underlying24,Ok,Ok⟩,Ok,⟨Value.agg #[Value.string { data:=#[] },Value.slice none 0 0,Value.int IntKind.i64 0],Ok,Ok,Ok,⟨_,rfl⟩⟩⟩⟩
instance i25:TyI Tryz.prog 25 ⟨.struct [(0,1),(1,1),(2,1)],3,48,[.lit (Value.string { data:=#[] }),.lit (Value.slice none 0 0),.lit (Value.int IntKind.i64 0)]⟩:=⟨⟨⟨_,Tryz.underlying25,Ok,Ok⟩,Ok,⟨Value.agg #[Value.string { data:=#[] },Value.slice none 0 0,Value.int IntKind.i64 0],Ok,Ok,Ok,⟨_,rfl⟩⟩⟩⟩
instance i26:TyI Tryz.prog 26 ⟨.slice 61,1,24,[.lit (Value.slice none 0 0)]⟩:=⟨⟨Tryz.underlying26,Ok,⟨Value.slice none 0 0,Ok,Ok,Ok,rfl⟩⟩⟩
instance i27:TyI Tryz.prog 27 ⟨.slice 66,1,24,[.lit (Value.slice none 0 0)]⟩:=⟨⟨Tryz.underlying27,Ok,⟨Value.slice none 0 0,Ok,Ok,Ok,rfl⟩⟩⟩
instance i28:TyI Tryz.prog 28 ⟨.struct [(0,1),(1,1),(2,1)],3,56,[.lit (Value.int IntKind.i64 0),.lit (Value.slice none 0 0),.lit (Value.slice none 0 0)]⟩:=⟨⟨⟨_,Tryz.underlying28,Ok,Ok⟩,Ok,⟨Value.agg #[Value.int IntKind.i64 0,Value.slice none 0 0,Value.slice none 0 0],Ok,Ok,Ok,⟨_,rfl⟩⟩⟩⟩
instance i29:TyI Tryz.prog 29 ⟨.struct [(0,1),(1,1),(2,1)],3,56,[.lit (Value.int IntKind.i64 0),.lit (Value.slice none 0 0),.lit (Value.slice none 0 0)]⟩:=⟨⟨⟨_,Tryz.underlying29,Ok,Ok⟩,Ok,⟨Value.agg #[Value.int IntKind.i64 0,Value.slice none 0 0,Value.slice none 0 0],Ok,Ok,Ok,⟨_,rfl⟩⟩⟩⟩
instance i30:TyI Tryz.prog 30 ⟨.slice 52,1,24,[.lit (Value.slice none 0 0)]⟩:=⟨⟨Tryz.underlying30,Ok,⟨Value.slice none 0 0,Ok,Ok,Ok,rfl⟩⟩⟩
instance i31:TyI Tryz.prog 31 ⟨.slice 81,1,24,[.lit (Value.slice none 0 0)]⟩:=⟨⟨Tryz.underlying31,Ok,⟨Value.slice none 0 0,Ok,Ok,Ok,rfl⟩⟩⟩
instance i32:TyI Tryz.prog 32 ⟨.slice 4,1,24,[.lit (Value.slice none 0 0)]⟩:=⟨⟨Tryz.underlying32,Ok,⟨Value.slice none 0 0,Ok,Ok,Ok,rfl⟩⟩⟩
instance i33:TyI Tryz.prog 33 ⟨.struct [(0,1),(1,1)],2,48,[.lit (Value.slice none 0 0),.lit (Value.slice none 0 0)]⟩:=⟨⟨⟨_,Tryz.underlying33,Ok,Ok⟩,Ok,⟨Value.agg #[Value.slice none 0 0,Value.slice none 0 0],Ok,Ok,Ok,⟨_,rfl⟩⟩⟩⟩
instance i34:TyI Tryz.prog 34 ⟨.struct [(0,1),(1,1)],2,48,[.lit (Value.slice none 0 0),.lit (Value.slice none 0 0)]⟩:=⟨⟨⟨_,Tryz.underlying34,Ok,Ok⟩,Ok,⟨Value.agg #[Value.slice none 0 0,Value.slice none 0 0],Ok,Ok,Ok,⟨_,rfl⟩⟩⟩⟩
instance i35:TyI Tryz.prog 35 ⟨.struct [(0,1),(1,1),(2,1),(3,1),(4,1),(5,1),(6,1),(7,1),(8,1)],9,72,List.replicate 9 (.lit (Value.int IntKind.i64 0))⟩:=⟨⟨⟨_,Tryz.underlying35,Ok,Ok⟩,Ok,⟨Value.agg #[Value.int IntKind.i64 0,Value.int IntKind.i64 0,Value.int IntKind.i64 0,Value.int IntKind.i64 0,Value.int IntKind.i64 0,Value.int IntKind.i64 0,Value.int IntKind.i64 0,Value.int IntKind.i64 0,Value.int IntKind.i64 0],Ok,Ok,Ok,⟨_,rfl⟩⟩⟩⟩
instance i36:TyI Tryz.prog 36 ⟨.struct [(0,1),(1,1),(2,1),(3,1),(4,1),(5,1),(6,1),(7,1),(8,1)],9,72,List.replicate 9 (.lit (Value.int IntKind.i64 0))⟩:=⟨⟨⟨_,Tryz.underlying36,Ok,Ok⟩,Ok,⟨Value.agg #[Value.int IntKind.i64 0,Value.int IntKind.i64 0,Value.int IntKind.i64 0,Value.int IntKind.i64 0,Value.int IntKind.i64 0,Value.int IntKind.i64 0,Value.int IntKind.i64 0,Value.int IntKind.i64 0,Value.int IntKind.i64 0],Ok,Ok,Ok,⟨_,rfl⟩⟩⟩⟩
instance i37:TyI Tryz.prog 37 ⟨.struct [(0,3),(3,3),(6,1),(7,1),(8,1),(9,2),(11,1),(12,9),(21,1)],22,296,[.lit (Value.string { data:=#[] }),.lit (Value.slice none 0 0),.lit (Value.int IntKind.i64 0),.lit (Value.int IntKind.i64 0),.lit (Value.slice none 0 0),.lit (Value.slice none 0 0),.lit (Value.slice none 0 0),.lit (Value.int IntKind.i64 0),.lit (Value.slice none 0 0),.lit (Value.slice none 0 0),.lit (Value.slice none 0 0),.lit (Value.int IntKind.i64 0),.lit (Value.int IntKind.i64 0),.lit (Value.int IntKind.i64 0),.lit (Value.int IntKind.i64 0),.lit (Value.int IntKind.i64 0),.lit (Value.int IntKind.i64 0),.lit (Value.int IntKind.i64 0),.lit (Value.int IntKind.i64 0),.lit (Value.int IntKind.i64 0),.lit (Value.int IntKind.i64 0),.lit (Value.bool false)]⟩:=⟨⟨⟨_,Tryz.underlying37,Ok,Ok⟩,Ok,⟨Value.agg #[Value.string { data:=#[] },Value.slice none 0 0,Value.int IntKind.i64 0,Value.int IntKind.i64 0,Value.slice none 0 0,Value.slice none 0 0,Value.slice none 0 0,Value.int IntKind.i64 0,Value.slice none 0 0,Value.slice none 0 0,Value.slice none 0 0,Value.int IntKind.i64 0,Value.int IntKind.i64 0,Value.int IntKind.i64 0,Value.int IntKind.i64 0,Value.int IntKind.i64 0,Value.int IntKind.i64 0,Value.int IntKind.i64 0,Value.int IntKind.i64 0,Value.int IntKind.i64 0,Value.int IntKind.i64 0,Value.bool false],Ok,Ok,Ok,⟨_,rfl⟩⟩⟩⟩
instance i38:TyI Tryz.prog 38 ⟨.struct [(0,3),(3,3),(6,1),(7,1),(8,1),(9,2),(11,1),(12,9),(21,1)],22,296,[.lit (Value.string { data:=#[] }),.lit (Value.slice none 0 0),.lit (Value.int IntKind.i64 0),.lit (Value.int IntKind.i64 0),.lit (Value.slice none 0 0),.lit (Value.slice none 0 0),.lit (Value.slice none 0 0),.lit (Value.int IntKind.i64 0),.lit (Value.slice none 0 0),.lit (Value.slice none 0 0),.lit (Value.slice none 0 0),.lit (Value.int IntKind.i64 0),.lit (Value.int IntKind.i64 0),.lit (Value.int IntKind.i64 0),.lit (Value.int IntKind.i64 0),.lit (Value.int IntKind.i64 0),.lit (Value.int IntKind.i64 0),.lit (Value.int IntKind.i64 0),.lit (Value.int IntKind.i64 0),.lit (Value.int IntKind.i64 0),.lit (Value.int IntKind.i64 0),.lit (Value.bool false)]⟩:=⟨⟨⟨_,Tryz.underlying38,Ok,Ok⟩,Ok,⟨Value.agg #[Value.string { data:=#[] },Value.slice none 0 0,Value.int IntKind.i64 0,Value.int IntKind.i64 0,Value.slice none 0 0,Value.slice none 0 0,Value.slice none 0 0,Value.int IntKind.i64 0,Value.slice none 0 0,Value.slice none 0 0,Value.slice none 0 0,Value.int IntKind.i64 0,Value.int IntKind.i64 0,Value.int IntKind.i64 0,Value.int IntKind.i64 0,Value.int IntKind.i64 0,Value.int IntKind.i64 0,Value.int IntKind.i64 0,Value.int IntKind.i64 0,Value.int IntKind.i64 0,Value.int IntKind.i64 0,Value.bool false],Ok,Ok,Ok,⟨_,rfl⟩⟩⟩⟩
instance i39:TyI Tryz.prog 39 ⟨.slice 149,1,24,[.lit (Value.slice none 0 0)]⟩:=⟨⟨Tryz.underlying39,Ok,⟨Value.slice none 0 0,Ok,Ok,Ok,rfl⟩⟩⟩
instance i40:TyI Tryz.prog 40 ⟨.struct [(0,1),(1,1),(2,1)],3,72,[.lit (Value.slice none 0 0),.lit (Value.slice none 0 0),.lit (Value.slice none 0 0)]⟩:=⟨⟨⟨_,Tryz.underlying40,Ok,Ok⟩,Ok,⟨Value.agg #[Value.slice none 0 0,Value.slice none 0 0,Value.slice none 0 0],Ok,Ok,Ok,⟨_,rfl⟩⟩⟩⟩
instance i41:TyI Tryz.prog 41 ⟨.struct [(0,1),(1,1),(2,1)],3,72,[.lit (Value.slice none 0 0),.lit (Value.slice none 0 0),.lit (Value.slice none 0 0)]⟩:=⟨⟨⟨_,Tryz.underlying41,Ok,Ok⟩,Ok,⟨Value.agg #[Value.slice none 0 0,Value.slice none 0 0,Value.slice none 0 0],Ok,Ok,Ok,⟨_,rfl⟩⟩⟩⟩
instance i44:TyI Tryz.prog 44 ⟨.ptr 73,1,8,[.lit (Value.pointer none)]⟩:=⟨⟨Tryz.underlying44,Ok,⟨Value.pointer none,Ok,Ok,Ok,rfl⟩⟩⟩
instance i47:TyI Tryz.prog 47 ⟨.slice 31,1,24,[.lit (Value.slice none 0 0)]⟩:=⟨⟨Tryz.underlying47,Ok,⟨Value.slice none 0 0,Ok,Ok,Ok,rfl⟩⟩⟩
instance i52:TyI Tryz.prog 52 ⟨.slice 56,1,24,[.lit (Value.slice none 0 0)]⟩:=⟨⟨Tryz.underlying52,Ok,⟨Value.slice none 0 0,Ok,Ok,Ok,rfl⟩⟩⟩
instance i54:TyI Tryz.prog 54 ⟨.slice 68,1,24,[.lit (Value.slice none 0 0)]⟩:=⟨⟨Tryz.underlying54,Ok,⟨Value.slice none 0 0,Ok,Ok,Ok,rfl⟩⟩⟩
instance i55:TyI Tryz.prog 55 ⟨.struct [(0,1),(1,1),(2,1),(3,1),(4,1)],5,40,[.lit (Value.int IntKind.i64 0),.lit (Value.int IntKind.i64 0),.lit (Value.int IntKind.i64 0),.lit (Value.int IntKind.i64 0),.lit (Value.int IntKind.i64 0)]⟩:=⟨⟨⟨_,Tryz.underlying55,Ok,Ok⟩,Ok,⟨Value.agg #[Value.int IntKind.i64 0,Value.int IntKind.i64 0,Value.int IntKind.i64 0,Value.int IntKind.i64 0,Value.int IntKind.i64 0],Ok,Ok,Ok,⟨_,rfl⟩⟩⟩⟩
instance i56:TyI Tryz.prog 56 ⟨.struct [(0,1),(1,1),(2,1),(3,1),(4,1)],5,40,[.lit (Value.int IntKind.i64 0),.lit (Value.int IntKind.i64 0),.lit (Value.int IntKind.i64 0),.lit (Value.int IntKind.i64 0),.lit (Value.int IntKind.i64 0)]⟩:=⟨⟨⟨_,Tryz.underlying56,Ok,Ok⟩,Ok,⟨Value.agg #[Value.int IntKind.i64 0,Value.int IntKind.i64 0,Value.int IntKind.i64 0,Value.int IntKind.i64 0,Value.int IntKind.i64 0],Ok,Ok,Ok,⟨_,rfl⟩⟩⟩⟩
instance i57:TyI Tryz.prog 57 ⟨.int .i64,1,8,[.lit (Value.int IntKind.i64 0)]⟩:=⟨⟨Tryz.underlying57,Ok,⟨Value.int IntKind.i64 0,Ok,Ok,Ok,rfl⟩⟩⟩
instance i61:TyI Tryz.prog 61 ⟨.int .u64,1,8,[.lit (Value.int IntKind.u64 0)]⟩:=⟨⟨Tryz.underlying61,Ok,⟨Value.int IntKind.u64 0,Ok,Ok,Ok,rfl⟩⟩⟩
instance i64:TyI Tryz.prog 64 ⟨.int .u64,1,8,[.lit (Value.int IntKind.u64 0)]⟩:=⟨⟨Tryz.underlying64,Ok,⟨Value.int IntKind.u64 0,Ok,Ok,Ok,rfl⟩⟩⟩
instance i65:TyI Tryz.prog 65 ⟨.struct [(0,1),(1,1),(2,1)],3,24,[.lit (Value.int IntKind.i64 0),.lit (Value.int IntKind.i64 0),.lit (Value.int IntKind.i64 0)]⟩:=⟨⟨⟨_,Tryz.underlying65,Ok,Ok⟩,Ok,⟨Value.agg #[Value.int IntKind.i64 0,Value.int IntKind.i64 0,Value.int IntKind.i64 0],Ok,Ok,Ok,⟨_,rfl⟩⟩⟩⟩
instance i66:TyI Tryz.prog 66 ⟨.struct [(0,1),(1,1),(2,1)],3,24,[.lit (Value.int IntKind.i64 0),.lit (Value.int IntKind.i64 0),.lit (Value.int IntKind.i64 0)]⟩:=⟨⟨⟨_,Tryz.underlying66,Ok,Ok⟩,Ok,⟨Value.agg #[Value.int IntKind.i64 0,Value.int IntKind.i64 0,Value.int IntKind.i64 0],Ok,Ok,Ok,⟨_,rfl⟩⟩⟩⟩
instance i67:TyI Tryz.prog 67 ⟨.struct [(0,1),(1,1),(2,1)],3,24,[.lit (Value.int IntKind.i64 0),.lit (Value.int IntKind.i64 0),.lit (Value.int IntKind.i64 0)]⟩:=⟨⟨⟨_,Tryz.underlying67,Ok,Ok⟩,Ok,⟨Value.agg #[Value.int IntKind.i64 0,Value.int IntKind.i64 0,Value.int IntKind.i64 0],Ok,Ok,Ok,⟨_,rfl⟩⟩⟩⟩
instance i68:TyI Tryz.prog 68 ⟨.struct [(0,1),(1,1),(2,1)],3,24,[.lit (Value.int IntKind.i64 0),.lit (Value.int IntKind.i64 0),.lit (Value.int IntKind.i64 0)]⟩:=⟨⟨⟨_,Tryz.underlying68,Ok,Ok⟩,Ok,⟨Value.agg #[Value.int IntKind.i64 0,Value.int IntKind.i64 0,Value.int IntKind.i64 0],Ok,Ok,Ok,⟨_,rfl⟩⟩⟩⟩
instance i72:TyI Tryz.prog 72 ⟨.struct [(0,1),(1,1)],2,32,[.lit (Value.slice none 0 0),.lit (Value.int IntKind.i64 0)]⟩:=⟨⟨⟨_,Tryz.underlying72,Ok,Ok⟩,Ok,⟨Value.agg #[Value.slice none 0 0,Value.int IntKind.i64 0],Ok,Ok,Ok,⟨_,rfl⟩⟩⟩⟩
instance i73:TyI Tryz.prog 73 ⟨.struct [(0,1),(1,1)],2,32,[.lit (Value.slice none 0 0),.lit (Value.int IntKind.i64 0)]⟩:=⟨⟨⟨_,Tryz.underlying73,Ok,Ok⟩,Ok,⟨Value.agg #[Value.slice none 0 0,Value.int IntKind.i64 0],Ok,Ok,Ok,⟨_,rfl⟩⟩⟩⟩
instance i80:TyI Tryz.prog 80 ⟨.struct [(0,1),(1,1),(2,1)],3,40,[.lit (Value.int IntKind.i64 0),.lit (Value.int IntKind.i64 0),.lit (Value.slice none 0 0)]⟩:=⟨⟨⟨_,Tryz.underlying80,Ok,Ok⟩,Ok,⟨Value.agg #[Value.int IntKind.i64 0,Value.int IntKind.i64 0,Value.slice none 0 0],Ok,Ok,Ok,⟨_,rfl⟩⟩⟩⟩
instance i81:TyI Tryz.prog 81 ⟨.struct [(0,1),(1,1),(2,1)],3,40,[.lit (Value.int IntKind.i64 0),.lit (Value.int IntKind.i64 0),.lit (Value.slice none 0 0)]⟩:=⟨⟨⟨_,Tryz.underlying81,Ok,Ok⟩,Ok,⟨Value.agg #[Value.int IntKind.i64 0,Value.int IntKind.i64 0,Value.slice none 0 0],Ok,Ok,Ok,⟨_,rfl⟩⟩⟩⟩
instance i96:TyI Tryz.prog 96 ⟨.struct [(0,1),(1,1),(2,1),(3,1)],4,32,[.lit (Value.int IntKind.i64 0),.lit (Value.int IntKind.i64 0),.lit (Value.int IntKind.i64 0),.lit (Value.int IntKind.i64 0)]⟩:=⟨⟨⟨_,Tryz.underlying96,Ok,Ok⟩,Ok,⟨Value.agg #[Value.int IntKind.i64 0,Value.int IntKind.i64 0,Value.int IntKind.i64 0,Value.int IntKind.i64 0],Ok,Ok,Ok,⟨_,rfl⟩⟩⟩⟩
instance i97:TyI Tryz.prog 97 ⟨.struct [(0,1),(1,1),(2,1),(3,1)],4,32,[.lit (Value.int IntKind.i64 0),.lit (Value.int IntKind.i64 0),.lit (Value.int IntKind.i64 0),.lit (Value.int IntKind.i64 0)]⟩:=⟨⟨⟨_,Tryz.underlying97,Ok,Ok⟩,Ok,⟨Value.agg #[Value.int IntKind.i64 0,Value.int IntKind.i64 0,Value.int IntKind.i64 0,Value.int IntKind.i64 0],Ok,Ok,Ok,⟨_,rfl⟩⟩⟩⟩
instance i99:TyI Tryz.prog 99 ⟨.struct [(0,1),(1,1)],2,16,[.lit (Value.int IntKind.i64 0),.lit (Value.int IntKind.u64 0)]⟩:=⟨⟨⟨_,Tryz.underlying99,Ok,Ok⟩,Ok,⟨Value.agg #[Value.int IntKind.i64 0,Value.int IntKind.u64 0],Ok,Ok,Ok,⟨_,rfl⟩⟩⟩⟩
instance i100:TyI Tryz.prog 100 ⟨.struct [(0,1),(1,1)],2,16,[.lit (Value.int IntKind.i64 0),.lit (Value.int IntKind.u64 0)]⟩:=⟨⟨⟨_,Tryz.underlying100,Ok,Ok⟩,Ok,⟨Value.agg #[Value.int IntKind.i64 0,Value.int IntKind.u64 0],Ok,Ok,Ok,⟨_,rfl⟩⟩⟩⟩
instance i107:TyI Tryz.prog 107 ⟨.slice 9,1,24,[.lit (Value.slice none 0 0)]⟩:=⟨⟨Tryz.underlying107,Ok,⟨Value.slice none 0 0,Ok,Ok,Ok,rfl⟩⟩⟩
instance i109:TyI Tryz.prog 109 ⟨.flt .f64,1,8,[.lit (Value.float FloatKind.f64 0)]⟩:=⟨⟨Tryz.underlying109,Ok,⟨Value.float FloatKind.f64 0,Ok,Ok,Ok,rfl⟩⟩⟩
instance i110:TyI Tryz.prog 110 ⟨.struct [(0,1),(1,1),(2,1),(3,1)],4,32,[.lit (Value.float FloatKind.f64 0),.lit (Value.int IntKind.i64 0),.lit (Value.int IntKind.i64 0),.lit (Value.int IntKind.i64 0)]⟩:=⟨⟨⟨_,Tryz.underlying110,Ok,Ok⟩,Ok,⟨Value.agg #[Value.float FloatKind.f64 0,Value.int IntKind.i64 0,Value.int IntKind.i64 0,Value.int IntKind.i64 0],Ok,Ok,Ok,⟨_,rfl⟩⟩⟩⟩
instance Qa8:TyI Tryz.prog 111 ⟨.struct [(0,1),(1,1),(2,1),(3,1)],4,32,[.lit (Value.float FloatKind.f64 0),.lit (Value.int IntKind.i64 0),.lit (Value.int IntKind.i64 0),.lit (Value.int IntKind.i64 0)]⟩:=⟨⟨⟨_,Tryz.underlying111,Ok,Ok⟩,Ok,⟨Value.agg #[Value.float FloatKind.f64 0,Value.int IntKind.i64 0,Value.int IntKind.i64 0,Value.int IntKind.i64 0],Ok,Ok,Ok,⟨_,rfl⟩⟩⟩⟩
instance i115:TyI Tryz.prog 115 ⟨.struct [(0,3),(3,1),(4,1),(5,1)],6,80,[.lit (Value.int IntKind.i64 0),.lit (Value.slice none 0 0),.lit (Value.slice none 0 0),.lit (Value.int IntKind.i64 0),.lit (Value.int IntKind.i64 0),.lit (Value.int IntKind.i64 0)]⟩:=⟨⟨⟨_,Tryz.underlying115,Ok,Ok⟩,Ok,⟨Value.agg #[Value.int IntKind.i64 0,Value.slice none 0 0,Value.slice none 0 0,Value.int IntKind.i64 0,Value.int IntKind.i64 0,Value.int IntKind.i64 0],Ok,Ok,Ok,⟨_,rfl⟩⟩⟩⟩
instance i116:TyI Tryz.prog 116 ⟨.struct [(0,3),(3,1),(4,1),(5,1)],6,80,[.lit (Value.int IntKind.i64 0),.lit (Value.slice none 0 0),.lit (Value.slice none 0 0),.lit (Value.int IntKind.i64 0),.lit (Value.int IntKind.i64 0),.lit (Value.int IntKind.i64 0)]⟩:=⟨⟨⟨_,Tryz.underlying116,Ok,Ok⟩,Ok,⟨Value.agg #[Value.int IntKind.i64 0,Value.slice none 0 0,Value.slice none 0 0,Value.int IntKind.i64 0,Value.int IntKind.i64 0,Value.int IntKind.i64 0],Ok,Ok,Ok,⟨_,rfl⟩⟩⟩⟩
instance i148:TyI Tryz.prog 148 ⟨.struct [(0,1),(1,1)],2,48,[.lit (Value.slice none 0 0),.lit (Value.slice none 0 0)]⟩:=⟨⟨⟨_,Tryz.underlying148,Ok,Ok⟩,Ok,⟨Value.agg #[Value.slice none 0 0,Value.slice none 0 0],Ok,Ok,Ok,⟨_,rfl⟩⟩⟩⟩
instance i149:TyI Tryz.prog 149 ⟨.struct [(0,1),(1,1)],2,48,[.lit (Value.slice none 0 0),.lit (Value.slice none 0 0)]⟩:=⟨⟨⟨_,Tryz.underlying149,Ok,Ok⟩,Ok,⟨Value.agg #[Value.slice none 0 0,Value.slice none 0 0],Ok,Ok,Ok,⟨_,rfl⟩⟩⟩⟩
instance i154:TyI Tryz.prog 154 ⟨.slice 109,1,24,[.lit (Value.slice none 0 0)]⟩:=⟨⟨Tryz.underlying154,Ok,⟨Value.slice none 0 0,Ok,Ok,Ok,rfl⟩⟩⟩
instance i159:TyI Tryz.prog 159 ⟨.int .i64,1,8,[.lit (Value.int IntKind.i64 0)]⟩:=⟨⟨Tryz.underlying159,Ok,⟨Value.int IntKind.i64 0,Ok,Ok,Ok,rfl⟩⟩⟩
instance i166:TyI Tryz.prog 166 ⟨.int .u32,1,4,[.lit (Value.int IntKind.u32 0)]⟩:=⟨⟨Tryz.underlying166,Ok,⟨Value.int IntKind.u32 0,Ok,Ok,Ok,rfl⟩⟩⟩
instance i172:TyI Tryz.prog 172 ⟨.array 4 4,4,4,[.lit (Value.bool false),.lit (Value.bool false),.lit (Value.bool false),.lit (Value.bool false)]⟩:=⟨⟨Tryz.underlying172,Ok,⟨Value.agg #[Value.bool false,Value.bool false,Value.bool false,Value.bool false],Ok,Ok,Ok,⟨_,rfl⟩⟩⟩⟩
instance i196:TyI Tryz.prog 196 ⟨.int .u64,1,8,[.lit (Value.int IntKind.u64 0)]⟩:=⟨⟨Tryz.underlying196,Ok,⟨Value.int IntKind.u64 0,Ok,Ok,Ok,rfl⟩⟩⟩
instance i200:TyI Tryz.prog 200 ⟨.ptr 3,1,8,[.lit (Value.pointer none)]⟩:=⟨⟨Tryz.underlying200,Ok,⟨Value.pointer none,Ok,Ok,Ok,rfl⟩⟩⟩
instance i219:TyI Tryz.prog 219 ⟨.ptr 196,1,8,[.lit (Value.pointer none)]⟩:=⟨⟨Tryz.underlying219,Ok,⟨Value.pointer none,Ok,Ok,Ok,rfl⟩⟩⟩
instance i230:TyI Tryz.prog 230 ⟨.struct [(0,1),(1,1),(2,1)],3,24,[.lit (Value.int IntKind.i64 0),.lit (Value.bool false),.lit (Value.int IntKind.i64 0)]⟩:=⟨⟨⟨_,Tryz.underlying230,Ok,Ok⟩,Ok,⟨Value.agg #[Value.int IntKind.i64 0,Value.bool false,Value.int IntKind.i64 0],Ok,Ok,Ok,⟨_,rfl⟩⟩⟩⟩
instance i231:TyI Tryz.prog 231 ⟨.struct [(0,1),(1,1),(2,1)],3,24,[.lit (Value.int IntKind.i64 0),.lit (Value.bool false),.lit (Value.int IntKind.i64 0)]⟩:=⟨⟨⟨_,Tryz.underlying231,Ok,Ok⟩,Ok,⟨Value.agg #[Value.int IntKind.i64 0,Value.bool false,Value.int IntKind.i64 0],Ok,Ok,Ok,⟨_,rfl⟩⟩⟩⟩
instance i235:TyI Tryz.prog 235 ⟨.struct [(0,1),(1,1),(2,1),(3,1)],4,32,[.lit (Value.int IntKind.i64 0),.lit (Value.int IntKind.i64 0),.lit (Value.int IntKind.i64 0),.lit (Value.int IntKind.i64 0)]⟩:=⟨⟨⟨_,Tryz.underlying235,Ok,Ok⟩,Ok,⟨Value.agg #[Value.int IntKind.i64 0,Value.int IntKind.i64 0,Value.int IntKind.i64 0,Value.int IntKind.i64 0],Ok,Ok,Ok,⟨_,rfl⟩⟩⟩⟩
instance i236:TyI Tryz.prog 236 ⟨.struct [(0,1),(1,1),(2,1),(3,1)],4,32,[.lit (Value.int IntKind.i64 0),.lit (Value.int IntKind.i64 0),.lit (Value.int IntKind.i64 0),.lit (Value.int IntKind.i64 0)]⟩:=⟨⟨⟨_,Tryz.underlying236,Ok,Ok⟩,Ok,⟨Value.agg #[Value.int IntKind.i64 0,Value.int IntKind.i64 0,Value.int IntKind.i64 0,Value.int IntKind.i64 0],Ok,Ok,Ok,⟨_,rfl⟩⟩⟩⟩
instance i247:TyI Tryz.prog 247 ⟨.slice 263,1,24,[.lit (Value.slice none 0 0)]⟩:=⟨⟨Tryz.underlying247,Ok,⟨Value.slice none 0 0,Ok,Ok,Ok,rfl⟩⟩⟩
instance i258:TyI Tryz.prog 258 ⟨.ptr 260,1,8,[.lit (Value.pointer none)]⟩:=⟨⟨Tryz.underlying258,Ok,⟨Value.pointer none,Ok,Ok,Ok,rfl⟩⟩⟩
instance i259:TyI Tryz.prog 259 ⟨.struct [(0,3),(3,1),(4,5),(9,1),(10,1)],11,152,[.lit (Value.int IntKind.i64 0),.lit (Value.slice none 0 0),.lit (Value.slice none 0 0),.lit (Value.slice none 0 0),.lit (Value.int IntKind.i64 0),.lit (Value.int IntKind.i64 0),.lit (Value.int IntKind.i64 0),.lit (Value.int IntKind.i64 0),.lit (Value.int IntKind.i64 0),.lit (Value.slice none 0 0),.lit (Value.int IntKind.i64 0)]⟩:=⟨⟨⟨_,Tryz.underlying259,Ok,Ok⟩,Ok,⟨Value.agg #[Value.int IntKind.i64 0,Value.slice none 0 0,Value.slice none 0 0,Value.slice none 0 0,Value.int IntKind.i64 0,Value.int IntKind.i64 0,Value.int IntKind.i64 0,Value.int IntKind.i64 0,Value.int IntKind.i64 0,Value.slice none 0 0,Value.int IntKind.i64 0],Ok,Ok,Ok,⟨_,rfl⟩⟩⟩⟩
instance i260:TyI Tryz.prog 260 ⟨.struct [(0,3),(3,1),(4,5),(9,1),(10,1)],11,152,[.lit (Value.int IntKind.i64 0),.lit (Value.slice none 0 0),.lit (Value.slice none 0 0),.lit (Value.slice none 0 0),.lit (Value.int IntKind.i64 0),.lit (Value.int IntKind.i64 0),.lit (Value.int IntKind.i64 0),.lit (Value.int IntKind.i64 0),.lit (Value.int IntKind.i64 0),.lit (Value.slice none 0 0),.lit (Value.int IntKind.i64 0)]⟩:=⟨⟨⟨_,Tryz.underlying260,Ok,Ok⟩,Ok,⟨Value.agg #[Value.int IntKind.i64 0,Value.slice none 0 0,Value.slice none 0 0,Value.slice none 0 0,Value.int IntKind.i64 0,Value.int IntKind.i64 0,Value.int IntKind.i64 0,Value.int IntKind.i64 0,Value.int IntKind.i64 0,Value.slice none 0 0,Value.int IntKind.i64 0],Ok,Ok,Ok,⟨_,rfl⟩⟩⟩⟩
instance i262:TyI Tryz.prog 262 ⟨.struct [(0,1),(1,1)],2,16,[.lit (Value.int IntKind.i64 0),.lit (Value.int IntKind.i64 0)]⟩:=⟨⟨⟨_,Tryz.underlying262,Ok,Ok⟩,Ok,⟨Value.agg #[Value.int IntKind.i64 0,Value.int IntKind.i64 0],Ok,Ok,Ok,⟨_,rfl⟩⟩⟩⟩
instance i263:TyI Tryz.prog 263 ⟨.struct [(0,1),(1,1)],2,16,[.lit (Value.int IntKind.i64 0),.lit (Value.int IntKind.i64 0)]⟩:=⟨⟨⟨_,Tryz.underlying263,Ok,Ok⟩,Ok,⟨Value.agg #[Value.int IntKind.i64 0,Value.int IntKind.i64 0],Ok,Ok,Ok,⟨_,rfl⟩⟩⟩⟩
instance i267:TyI Tryz.prog 267 ⟨.struct [(0,1),(1,1),(2,1),(3,1)],4,40,[.lit (Value.pointer none),.lit (Value.pointer none),.lit (Value.pointer none),.lit (Value.string { data:=#[] })]⟩:=⟨⟨⟨_,Tryz.underlying267,Ok,Ok⟩,Ok,⟨Value.agg #[Value.pointer none,Value.pointer none,Value.pointer none,Value.string { data:=#[] }],Ok,Ok,Ok,⟨_,rfl⟩⟩⟩⟩
instance i268:TyI Tryz.prog 268 ⟨.struct [(0,1),(1,1),(2,1),(3,1)],4,40,[.lit (Value.pointer none),.lit (Value.pointer none),.lit (Value.pointer none),.lit (Value.string { data:=#[] })]⟩:=⟨⟨⟨_,Tryz.underlying268,Ok,Ok⟩,Ok,⟨Value.agg #[Value.pointer none,Value.pointer none,Value.pointer none,Value.string { data:=#[] }],Ok,Ok,Ok,⟨_,rfl⟩⟩⟩⟩
instance i269:TyI Tryz.prog 269 ⟨.array 0 16,0,0,[]⟩:=⟨⟨Tryz.underlying269,Ok,⟨Value.agg #[],Ok,Ok,Ok,⟨_,rfl⟩⟩⟩⟩
instance i270:TyI Tryz.prog 270 ⟨.struct [(0,0)],0,0,[]⟩:=⟨⟨⟨_,Tryz.underlying270,Ok,Ok⟩,Ok,⟨Value.agg #[],Ok,Ok,Ok,⟨_,rfl⟩⟩⟩⟩
instance i271:TyI Tryz.prog 271 ⟨.struct [(0,0)],0,0,[]⟩:=⟨⟨⟨_,Tryz.underlying271,Ok,Ok⟩,Ok,⟨Value.agg #[],Ok,Ok,Ok,⟨_,rfl⟩⟩⟩⟩
instance i272:TyI Tryz.prog 272 ⟨.int .u8,1,1,[.lit (Value.int IntKind.u8 0)]⟩:=⟨⟨Tryz.underlying272,Ok,⟨Value.int IntKind.u8 0,Ok,Ok,Ok,rfl⟩⟩⟩
instance i273:TyI Tryz.prog 273 ⟨.int .u8,1,1,[.lit (Value.int IntKind.u8 0)]⟩:=⟨⟨Tryz.underlying273,Ok,⟨Value.int IntKind.u8 0,Ok,Ok,Ok,rfl⟩⟩⟩
instance i275:TyI Tryz.prog 275 ⟨.ptr 5,1,8,[.lit (Value.pointer none)]⟩:=⟨⟨Tryz.underlying275,Ok,⟨Value.pointer none,Ok,Ok,Ok,rfl⟩⟩⟩
instance i276:TyI Tryz.prog 276 ⟨.int .i32,1,4,[.lit (Value.int IntKind.i32 0)]⟩:=⟨⟨Tryz.underlying276,Ok,⟨Value.int IntKind.i32 0,Ok,Ok,Ok,rfl⟩⟩⟩
instance i277:TyI Tryz.prog 277 ⟨.int .i32,1,4,[.lit (Value.int IntKind.i32 0)]⟩:=⟨⟨Tryz.underlying277,Ok,⟨Value.int IntKind.i32 0,Ok,Ok,Ok,rfl⟩⟩⟩
instance i278:TyI Tryz.prog 278 ⟨.struct [(0,1),(1,1),(2,1),(3,1),(4,1),(5,1),(6,1),(7,1),(8,1),(9,1),(10,1)],11,48,[.lit (Value.int IntKind.u64 0),.lit (Value.int IntKind.u64 0),.lit (Value.int IntKind.u32 0),.lit (Value.int IntKind.u8 0),.lit (Value.int IntKind.u8 0),.lit (Value.int IntKind.u8 0),.lit (Value.int IntKind.u8 0),.lit (Value.nilFunc),.lit (Value.pointer none),.lit (Value.int IntKind.i32 0),.lit (Value.int IntKind.i32 0)]⟩:=⟨⟨⟨_,Tryz.underlying278,Ok,Ok⟩,Ok,⟨Value.agg #[Value.int IntKind.u64 0,Value.int IntKind.u64 0,Value.int IntKind.u32 0,Value.int IntKind.u8 0,Value.int IntKind.u8 0,Value.int IntKind.u8 0,Value.int IntKind.u8 0,Value.nilFunc,Value.pointer none,Value.int IntKind.i32 0,Value.int IntKind.i32 0],Ok,Ok,Ok,⟨_,rfl⟩⟩⟩⟩
instance i279:TyI Tryz.prog 279 ⟨.struct [(0,1),(1,1),(2,1),(3,1),(4,1),(5,1),(6,1),(7,1),(8,1),(9,1),(10,1)],11,48,[.lit (Value.int IntKind.u64 0),.lit (Value.int IntKind.u64 0),.lit (Value.int IntKind.u32 0),.lit (Value.int IntKind.u8 0),.lit (Value.int IntKind.u8 0),.lit (Value.int IntKind.u8 0),.lit (Value.int IntKind.u8 0),.lit (Value.nilFunc),.lit (Value.pointer none),.lit (Value.int IntKind.i32 0),.lit (Value.int IntKind.i32 0)]⟩:=⟨⟨⟨_,Tryz.underlying279,Ok,Ok⟩,Ok,⟨Value.agg #[Value.int IntKind.u64 0,Value.int IntKind.u64 0,Value.int IntKind.u32 0,Value.int IntKind.u8 0,Value.int IntKind.u8 0,Value.int IntKind.u8 0,Value.int IntKind.u8 0,Value.nilFunc,Value.pointer none,Value.int IntKind.i32 0,Value.int IntKind.i32 0],Ok,Ok,Ok,⟨_,rfl⟩⟩⟩⟩
theorem mixedP:Tryz.prog.follows .mixedOrders=true:=by kernel_rfl
instance:MixP Tryz.prog:=⟨mixedP⟩
theorem ins_get{C vs:List Value}{z i j q:Nat}(hi:i*z<=C.length)(hv:vs.length=z)(hq:q<z) :
  (C.take (i*z)++vs++C.drop (i*z))[j*z+q]?=if j<i then C[j*z+q]? else if j=i then vs[q]? else C[(j-1)*z+q]?:=by
 have ht:(C.take (i*z)).length=i*z:=by rw [Wi];omega
 by_cases h1:j<i
 ·have hle:j*z+z<=i*z:=by
   have:=WB z (show j+1<=i by omega)
   rwa [Vq] at this
  rw [if_pos h1,WP,WM Oo,WL,if_pos Oo]
 ·rw [if_neg h1]
  by_cases h2:j=i
  ·subst h2
   rw [if_pos rfl,WM (by rw [We];omega),WO Oo,ht,UC]
  ·rw [if_neg h2]
   obtain ⟨d,rfl⟩:∃ d,j=i+1+d:=⟨j-i-1,Oo⟩
   have e1:(i+1+d)*z=i*z+z+d*z:=by rw [Vv,Vv,UX]
   have e2:(i+1+d-1)*z=i*z+d*z:=by rw [show i+1+d-1=i+d by omega,Vv]
   rw [WO (by rw [We];omega),W2,We,ht,hv,e1,e2]
   congr 1
   omega
def InsRaw(P:Program)(f z B:Nat):Prop:=∀ {w:World} {n i:Nat} {v vv:Value} {g0:Option (Nat×Nat)} {C vs:List Value}
  (hs:(∃ g cap cur T,g0=some (g,cap)/\v = .slice (some ⟨g,0,none⟩) n cap/\n<=cap/\cap<=maxLen/\w.heap[g]?=some (.cells cur T (0,0))/\cur.size=cap*z/\C=cur.toList.take (n*z))\/(g0=none/\v = .slice none 0 0/\n=0/\C=[]))
  (hv:∃ vb vc cv Tv,vv = .slice (some ⟨vb,0,none⟩) 1 vc/\w.heap[vb]?=some (.cells cv Tv (0,0))/\cv.size=vc*z/\1<=vc/\vs=cv.toList.take z/\∀ c,g0≠some (vb,c))
  (h1c:∀ u∈C,u.oneCell'=true) (h1v:∀ u∈vs,u.oneCell'=true) (hi:i<=n) (hb:(n+1)*B<=140737488355328),
  Calls P f #[v,.int .i64 i,vv] w λe w'=>∃ g' cap' cur' T',e = .returned (.slice (some ⟨g',0,none⟩) (n+1) cap')/\w'.os=w.os/\w'.tape=w.tape/\w'.output=w.output/\w.heap.size<=w'.heap.size /\
   (∀ j,j<w.heap.size->(∀ c,g0≠some (j,c))->w'.heap[j]?=w.heap[j]?)/\((∃ c',g0=some (g',c'))\/(w.heap.size<=g'/\g' < w'.heap.size))/\n+1<=cap'/\cap'<=maxLen/\w'.heap[g']?=some (.cells cur' T' (0,0))/\cur'.size=cap' * z/\cur'.toList.take ((n+1)*z)=C.take (i*z)++vs++C.drop (i*z)
theorem row_cells{m:Mem}{z g cap:Nat}{f:Bool}{xs:List (List DV)}(r:Row m ⟨z,true,f,xs⟩ g cap):∃ cur T C,m.w.heap[g]?=some (.cells cur T (0,0))/\cur.size=cap*z/\C=cur.toList.take (xs.length*z)/\C.length=xs.length*z /\
  (∀ (i:Nat) x (j:Nat) d,xs[i]?=some x->x[j]?=some d->∃ u,C[i*z+j]?=some u/\QgN m true u d)/\∀ u∈C,u.oneCell'=true:=by
 ð⟨cur,T,c1,c2,c3⟩:=r.cells
 have h0:0<z:=r.pos
 have hle:xs.length*z<=cap*z:=WB z (show xs.length<=cap from r.len)
 have c2:cur.size=cap*z:=c2
 have hsz:∀ (i:Nat) x,xs[i]?=some x->x.length=z:=r.sz
 have key:∀ (i:Nat) x (j:Nat) d,xs[i]?=some x->x[j]?=some d->∃ u,(cur.toList.take (xs.length*z))[i*z+j]?=some u/\QgN m true u d:=λi x j d hx hd=>by
  ð⟨u,hu,hr⟩:=c3 i x j d hx hd
  have hj:j<z:=by
   have:=hsz i x hx
   rcases Ws j x.length with h' | h'
   ·omega
   ·rw [Wg h'] at hd;cases hd
  have hi:i<xs.length:=by
   rcases Ws i xs.length with h' | h'
   ·~h'
   ·rw [Wg h'] at hx;cases hx
  have:=WB z (show i+1<=xs.length by omega)
  rw [Vq] at this
  ~⟨u,by rw [WL,if_pos Oo];simpa using hu,hr⟩
 &⟨cur,T,_,c1,c2,rfl,by rw [Wi,show cur.toList.length=cap*z by simpa using c2];omega,key,λu hu=>?_⟩
 ð⟨p,hp⟩:=Vd.1 hu
 have hpl:p<xs.length*z:=by
  rcases Ws p (xs.length*z) with h' | h'
  ·~h'
  ·rw [WL,if_neg Oo] at hp;cases hp
 have hq:p/z<xs.length:=by
  &(VP h0).2 hpl
 have hr:p%z<z:=UV _ h0
 obtain ⟨x,hx⟩:∃ x,xs[p/z]?=some x:=⟨_,Wa hq⟩
 obtain ⟨d,hd⟩:∃ d,x[p%z]?=some d:=⟨_,Wa (by rw [hsz _ _ hx];~hr)⟩
 ð⟨u',hu',h1,_⟩:=key _ x _ d hx hd
 rw [show p/z*z+p%z=p by rw [VE];~UJ p z,hp] at hu'
 injection hu' with hu'
 rw [hu']
 ~h1
theorem ins_dcall {α:Type} {c:α->List DV} {P:Program} {f z B:Nat} (hraw:InsRaw P f z B) {fn:Func} {cd:Code} (hf:P.funcs[f]?=some fn) (hname:(fn.name == "runtime.NumGoroutine")=false) (hb:fn.body=some cd) (hc:∀ a,(c a).length=z)
  (xs:List α) (x:α) (i:Int) (h:0<=i/\i<=xs.length/\((xs.length:Int)+1)*B<=140737488355328) :
  DCall P f [.own 0 0 xs.length,DI i,.own 1 0 1] [(0,⟨z,true,false,xs.map c⟩),(1,⟨z,true,false,[x].map c⟩)] (.own 2 0 (xs.insertIdx i.toNat x).length) [(2,⟨z,true,false,(xs.insertIdx i.toNat x).map c⟩)]:=by
 ð⟨h1,h2,h3⟩:=h
 &⟨λargs w=>by
  have hn:¬ fn.name= "runtime.NumGoroutine":=by simpa using hname
  simp [callFunc,hf,hn,hb],λw M σ vs hI hS hσ hR=>?_⟩
 have H0:=hS 0 ⟨z,true,false,xs.map c⟩ rfl
 have H1:=hS 1 ⟨z,true,false,[x].map c⟩ rfl
 match vs,hR with
 | [a0,a1,a2],hR =>
 have r0:Rep ⟨w,M,σ⟩ a0 (.own 0 0 xs.length):=hR.2 0 a0 _ rfl rfl
 have r1:Rep ⟨w,M,σ⟩ a1 (DI i):=hR.2 1 a1 _ rfl rfl
 have r2:Rep ⟨w,M,σ⟩ a2 (.own 1 0 1):=hR.2 2 a2 _ rfl rfl
 ð⟨en,k1,k2,k3,k4⟩:=X5 r0 H0
 ð⟨e1,q1,q2,q3,q4⟩:=X5 r2 H1
 have hi:=r1.lit_inv
 subst hi
 obtain ⟨vb,vc,p1,p2,p3,p4⟩:∃ g cap,e1.blk=some (g,cap)/\a2 = .slice (some ⟨g,0,none⟩) 1 cap/\1<=cap/\Row ⟨w,M,σ⟩ ⟨z,true,false,[x].map c⟩ g cap:=by
  rcases q4 with ⟨g,cap,q4,hsv,q5,q6⟩ | ⟨_,_,_,h,_⟩
  ·rw [Un,Uw] at hsv
   ~⟨g,cap,q4,hsv,Oo,q6⟩
  ·cases h
 ð⟨cv,Tv,V,v1,v2,v3,v4,v5,v6⟩:=row_cells p4
 have hz0:0<z:=p4.pos
 have v3':V=cv.toList.take z:=by rw [v3];simp
 have v4':V.length=z:=by rw [v4];simp
 obtain ⟨C,hC,hCl,hCr,hC1⟩:∃ C,((∃ g cap cur T,en.blk=some (g,cap)/\a0 = .slice (some ⟨g,0,none⟩) xs.length cap/\xs.length<=cap/\cap<=maxLen/\w.heap[g]?=some (.cells cur T (0,0))/\cur.size=cap*z/\C=cur.toList.take (xs.length*z))\/(en.blk=none/\a0 = .slice none 0 0/\xs.length=0/\C=[]))/\C.length=xs.length*z /\
   (∀ (i:Nat) y (j:Nat) d,(xs.map c)[i]?=some y->y[j]?=some d->∃ u,C[i*z+j]?=some u/\QgN ⟨w,M,σ⟩ true u d)/\∀ u∈C,u.oneCell'=true:=by
  rcases k4 with ⟨g,cap,k4,hsv,k5,k6⟩ | ⟨k4,hsv,_,h,he,_⟩
  ·rw [Un,Uw] at hsv
   ð⟨cur,T,C,c1,c2,c3,c4,c5,c6⟩:=row_cells k6
   rw [Wb] at c3 c4
   ~⟨C,.inl ⟨g,cap,cur,T,k4,hsv,Oo,k6.max,c1,c2,c3⟩,c4,c5,c6⟩
  ·&⟨[],.inr ⟨k4,hsv,h,rfl⟩,by simp [h],λi y j d hy=>?_,λu hu=>by cases hu⟩
   rw [show xs.map c=[] from he] at hy
   simp at hy
 have hne:∀ c',en.blk≠some (vb,c'):=λc' hc'=>by
  have:=hI.inj 0 1 en e1 vb k1 q1 (Ent.has_blk hc') (Ent.has_blk p1)
  cases this
 have hin:i.toNat<=xs.length:=by omega
 have hiz:i.toNat*z<=C.length:=by rw [hCl];~WB z hin
 have hcall:=hraw (w:=w) (n:=xs.length) (i:=i.toNat) (v:=a0) (vv:=a2) (g0:=en.blk) (C:=C) (vs:=V) hC ⟨vb,vc,cv,Tv,p2,v1,v2,p3,v3',hne⟩ hC1 v6 hin (by
  have:(((xs.length+1)*B:Nat):Int)<=140737488355328:=by push_cast;~h3
  omega)
 rw [Vj h1] at hcall
 &Calls.mono hcall λe w' ⟨g',cap',cur',T',he,w1,w2,w3,w4,w5,w6,w7,w8,w9,wa,wb⟩=>?_
 have hlen:(xs.insertIdx i.toNat x).length=xs.length+1:=by rw [UN,if_pos hin]
 have hT:=QdM hI k1 (by rw [k3];rfl) (hσ 2 (Wl _)) w' ⟨z,some (g',cap'),true,noI⟩ w1 w2 w3 w4 w5 (λg1 c' h=>by
  injection h with h
  injection h with h1 h2
  subst h1
  ~w6)
 &⟨_,ZN (ZN σ 0 none) 2 (some ⟨z,some (g',cap'),true,noI⟩),he,hT.1,hT.2.ent,?_,λs ob hob=>?_,λs hs=>?_⟩
 ·rw [hlen]
  ~own_mem (Qi _ _ _) rfl w7 w8
 ·obtain ⟨rfl,rfl⟩:s=2/\ob=⟨z,true,false,(xs.insertIdx i.toNat x).map c⟩:=by
   rw [Sto.get_cons] at hob
   split at hob
   ·rename_i h;injection hob with hob;~⟨h,hob.symm⟩
   ·cases hob
  have row:Row ⟨w',M,ZN (ZN σ 0 none) 2 (some ⟨z,some (g',cap'),true,noI⟩)⟩ ⟨z,true,false,(xs.insertIdx i.toNat x).map c⟩ g' cap':=by
   &⟨⟨cur',T',w9,wa,λj y q d hy hd=>?_⟩,by rw [Wb,hlen];~w7,w8,hz0,λj y hy=>by
    ð⟨a,_,rfl⟩:=Wk.1 (Wp hy)
    ~hc a⟩
   have hyl:y.length=z:=by
    ð⟨a,_,rfl⟩:=Wk.1 (Wp hy)
    ~hc a
   have hq:q<z:=by
    rcases Ws q y.length with h' | h'
    ·omega
    ·rw [Wg h'] at hd;cases hd
   have hj:j<xs.length+1:=by
    rcases Ws j (xs.length+1) with h' | h'
    ·~h'
    ·rw [Wg (by rw [Wb,hlen];~h')] at hy;cases hy
   have hjz:=WB z (show j+1<=xs.length+1 from hj)
   rw [Vq] at hjz
   have hg:=ins_get (C:=C) (vs:=V) (z:=z) (i:=i.toNat) (j:=j) (q:=q) hiz v4' hq
   rw [<- wb,WL,if_pos Oo] at hg
   rw [Wh,List.getElem?_insertIdx] at hy
   have done:∀ u,cur'.toList[j*z+q]?=some u->QgN ⟨w,M,σ⟩ true u d->∃ u,cur'[j*z+q]?=some u/\QgN ⟨w',M,ZN (ZN σ 0 none) 2 (some ⟨z,some (g',cap'),true,noI⟩)⟩ true u d:=λu h1 h2=>⟨u,by simpa using h1,h2.ext hT.2.toExt⟩
   by_cases h4:j<i.toNat
   ·rw [if_pos h4] at hg hy
    ð⟨u,hu,hr⟩:=hCr j y q d (by rw [Wh];~hy) hd
    ~done u (hg.trans hu) hr
   ·rw [if_neg h4] at hg hy
    by_cases h5:j=i.toNat
    ·rw [if_pos h5] at hg hy
     rw [if_pos Oo] at hy
     ð⟨u,hu,hr⟩:=v5 0 y q d (by simpa using hy) hd
     rw [Un,WS] at hu
     ~done u (hg.trans hu) hr
    ·rw [if_neg h5] at hg hy
     ð⟨u,hu,hr⟩:=hCr (j-1) y q d (by rw [Wh];~hy) hd
     ~done u (hg.trans hu) hr
  ~Holds.of (e:=⟨z,some (g',cap'),true,noI⟩) (by dsimp only;~Qi _ _ _) rfl rfl rfl row (row.deep rfl _)
 ·have hs:3<=s:=hs
  rw [QZ _ _ Oo,QZ _ _ Oo]
  ~hσ s (by show 2<=s;omega)
noncomputable def insF{α:Type}(B:Int)(xs:List α)(i:Int)(ys:List α):Option (List α):=match ys with
 | [x]=>if 0<=i/\i<=xs.length/\((xs.length:Int)+1)*B<=140737488355328 then some (xs.insertIdx i.toNat x) else none
 | _=>none
theorem insF_ok {α:Type} {c:α->List DV} {P:Program} {f z:Nat} {B:Nat} (hraw:InsRaw P f z B) {fn:Func} {cd:Code} (hf:P.funcs[f]?=some fn) (hname:(fn.name == "runtime.NumGoroutine")=false) (hb:fn.body=some cd) (hc:∀ a,(c a).length=z)
  {xs ys r:List α} {i:Int} (H:Sm (insF B xs i ys) r):DCall P f [.own 0 0 xs.length,DI i,.own 1 0 ys.length] [(0,⟨z,true,false,xs.map c⟩),(1,⟨z,true,false,ys.map c⟩)] (.own 2 0 r.length) [(2,⟨z,true,false,r.map c⟩)]:=by
 match ys,H with
 | [],H=>cases H.h
 | _ :: _ :: _,H=>cases H.h
 | [x],H =>
  ð⟨h1,h2⟩:=cq H
  have e:=se h2
  subst e
  ~ins_dcall hraw hf hname hb hc xs x i h1
noncomputable def J9(xs:List Int)(i:Int)(ys:List Int):Option (List Int):=insF 8 xs i ys
theorem Qc8{xs ys r:List Int}{i:Int}(H:Sm (J9 xs i ys) r):DCall Tryz.prog 60 [.own 0 0 xs.length,DI i,.own 1 0 ys.length] [(0,⟨1,true,false,xs.map iC⟩),(1,⟨1,true,false,ys.map iC⟩)] (.own 2 0 r.length) [(2,⟨1,true,false,r.map iC⟩)] :=
 insF_ok (B:=8) insI_raw Tryz.func60 rfl rfl (λ_=>rfl) H
theorem Qc7{α:Type}{c:α->List DV}(hc:∀ a,(c a).length=3){xs ys r:List α}{i:Int}(H:Sm (insF 40 xs i ys) r):DCall Tryz.prog 59 [.own 0 0 xs.length,DI i,.own 1 0 ys.length] [(0,⟨3,true,false,xs.map c⟩),(1,⟨3,true,false,ys.map c⟩)] (.own 2 0 r.length) [(2,⟨3,true,false,r.map c⟩)] :=
 insF_ok (B:=40) insS_raw Tryz.func59 rfl rfl hc H
def srtRen:Go.Shelf.Ren:=⟨λ| 189=>24 | 125=>51 | 257=>50 | 128=>97 | 129=>98 | 294=>89 | 295=>90 | 296=>91 | 297=>92 | 298=>93 | 299=>94 | 216=>87 | 300=>95 | 301=>96 | 328=>128 | 329=>129 | 330=>130 | 331=>131 | 332=>132 | 215=>127 | 343=>154 | n=>n,λ| 28=>22 | 3=>3 | 46=>64 | 0=>0 | 51=>166 | 53=>61 | 4=>4 | 183=>160 | 182=>159 | 131=>119 | 5=>5 | 9=>9 | 218=>196 | 222=>200 | 228=>219 | 229=>90 | n=>n,λn=>n⟩
theorem srtLay:Lays.n189 Tryz.prog srtRen:={
 mixed:=by kernel_rfl
 f125:=Tryz.func51.trans (congrArg some Ok)
 f128:=Tryz.func97.trans (congrArg some Ok)
 f129:=Tryz.func98.trans (congrArg some Ok)
 f189:=Tryz.func24.trans (congrArg some Ok)
 f215:=Tryz.func127.trans (congrArg some Ok)
 f216:=Tryz.func87.trans (congrArg some Ok)
 f257:=Tryz.func50.trans (congrArg some Ok)
 f294:=Tryz.func89.trans (congrArg some Ok)
 f295:=Tryz.func90.trans (congrArg some Ok)
 f296:=Tryz.func91.trans (congrArg some Ok)
 f297:=Tryz.func92.trans (congrArg some Ok)
 f298:=Tryz.func93.trans (congrArg some Ok)
 f299:=Tryz.func94.trans (congrArg some Ok)
 f300:=Tryz.func95.trans (congrArg some Ok)
 f301:=Tryz.func96.trans (congrArg some Ok)
 f328:=Tryz.func128.trans (congrArg some Ok)
 f329:=Tryz.func129.trans (congrArg some Ok)
 f330:=Tryz.func130.trans (congrArg some Ok)
 f331:=Tryz.func131.trans (congrArg some Ok)
 f332:=Tryz.func132.trans (congrArg some Ok)
 f343:=Tryz.func154.trans (congrArg some Ok)
 t0:=Tryz.underlying0
 a0:=Tryz.isAgg0
 z0:=Tryz.sizeOf0
 v0:=Tryz.zeroValue0
 t3:=Tryz.underlying3
 a3:=Tryz.isAgg3
 z3:=Tryz.sizeOf3
 v3:=Tryz.zeroValue3
 t4:=Tryz.underlying4
 a4:=Tryz.isAgg4
 z4:=Tryz.sizeOf4
 v4:=Tryz.zeroValue4
 t5:=Tryz.underlying5
 a5:=Tryz.isAgg5
 z5:=Tryz.sizeOf5
 v5:=Tryz.zeroValue5
 t9:=Tryz.underlying9
 a9:=Tryz.isAgg9
 z9:=Tryz.sizeOf9
 v9:=Tryz.zeroValue9
 t28:=Tryz.underlying22
 a28:=Tryz.isAgg22
 z28:=Tryz.sizeOf22
 v28:=Tryz.zeroValue22
 t46:=Tryz.underlying64
 a46:=Tryz.isAgg64
 z46:=Tryz.sizeOf64
 v46:=Tryz.zeroValue64
 t51:=Tryz.underlying166
 a51:=Tryz.isAgg166
 z51:=Tryz.sizeOf166
 v51:=Tryz.zeroValue166
 t53:=Tryz.underlying61
 a53:=Tryz.isAgg61
 z53:=Tryz.sizeOf61
 v53:=Tryz.zeroValue61
 t131:=Tryz.underlying119
 a131:=Tryz.isAgg119
 z131:=Tryz.sizeOf119
 v131:=Tryz.zeroValue119
 t182:=Tryz.underlying159
 a182:=Tryz.isAgg159
 z182:=Tryz.sizeOf159
 v182:=Tryz.zeroValue159
 t183:=Tryz.underlying160
 a183:=Tryz.isAgg160
 z183:=Tryz.sizeOf160
 v183:=Tryz.zeroValue160
 t218:=Tryz.underlying196
 a218:=Tryz.isAgg196
 z218:=Tryz.sizeOf196
 v218:=Tryz.zeroValue196
 t222:=Tryz.underlying200
 a222:=Tryz.isAgg200
 z222:=Tryz.sizeOf200
 v222:=Tryz.zeroValue200
 t228:=Tryz.underlying219
 a228:=Tryz.isAgg219
 z228:=Tryz.sizeOf219
 v228:=Tryz.zeroValue219
 t229:=Tryz.underlying90
 a229:=Tryz.isAgg90
 z229:=Tryz.sizeOf90
 v229:=Tryz.zeroValue90 }
theorem entR(σ:Nat->Option (Option Ent)):QcT σ σ:=λs x h=>⟨x,h,λe' he=>⟨e',he,rfl,rfl⟩⟩
theorem int_row{m:Mem}{g cap:Nat}{f:Bool}{l:List Int}(r:Row m ⟨1,true,f,l.map iC⟩ g cap):∃ cur T,m.w.heap[g]?=some (.cells cur T (0,0))/\cur.size=cap/\l.length<=cap/\∀ j (h:j<l.length),cur[j]?=some (.int .i64 l[j]):=by
 ð⟨cur,T,c1,c2,c3⟩:=r.cells
 &⟨cur,T,c1,by simpa using c2,by simpa using r.len,λj hj=>?_⟩
 ð⟨u,h1,_,h2⟩:=c3 j (iC l[j]) 0 (DI l[j]) (by rw [Wh,Wa hj];rfl) rfl
 have h2:PRep m.w m.no u (.lit (.int .i64 l[j])):=h2
 cases h2
 simpa using h1
theorem int_row_of{w':World}{M:Nat->Prop}{σ:Nat->Option (Option Ent)}{g cap T:Nat}{ys:List Int}{cur:Array Value}(h:w'.heap[g]?=some (.cells cur T (0,0)))(hs:cur.size=cap)(hl:ys.length<=cap)(hm:cap<=maxLen)(hc:∀ j (h:j<ys.length),cur[j]?=some (.int .i64 ys[j])) :
  Row ⟨w',M,σ⟩ ⟨1,true,false,ys.map iC⟩ g cap:=by
 &⟨⟨cur,T,h,by simpa using hs,λi x j d hx hd=>?_⟩,by simpa using hl,hm,Nat.one_pos,λi x hx=>?_⟩
 ·have hx:(ys.map iC)[i]?=some x:=hx
  have hi:i<ys.length:=by
   rcases Ws i ys.length with h' | h'
   ·~h'
   ·rw [Wg (by simpa using h')] at hx;cases hx
  rw [Wh,Wa hi] at hx
  injection hx with hx
  subst hx
  cases j with
  | succ j=>cases hd
  | zero =>
   injection hd with hd
   subst hd
   ~⟨_,by simpa using hc i hi,rfl,.lit _ rfl⟩
 ·ð⟨a,_,rfl⟩:=Wk.1 (Wp hx)
  rfl
noncomputable def QeR(l:List Int):List Int:=l.mergeSort λx y=>decide (x<=y)
theorem srtL_len(l:List Int):(QeR l).length=l.length:=by unfold QeR;simp
theorem enter_ok {f:Nat} {fn:Func} {cd:Code} (hf:Tryz.prog.funcs[f]?=some fn) (hname:(fn.name == "runtime.NumGoroutine")=false) (hb:fn.body=some cd):∀ args w,(callFunc f args).run Tryz.prog w = .ok (.enter f args) w:=λargs w=>by
 have hn:¬ fn.name= "runtime.NumGoroutine":=by simpa using hname
 simp [callFunc,hf,hn,hb]
theorem own_intv{w:World}{M:Nat->Prop}{σ:Nat->Option (Option Ent)}{a0:Value}{l:List Int}(r0:Rep ⟨w,M,σ⟩ a0 (.own 0 0 l.length))(H0:Holds ⟨w,M,σ⟩ 0 ⟨1,true,false,l.map iC⟩) :
  ∃ en,σ 0=some (some en)/\en.esz=1/\en.mu=true/\((∃ g cap,en.blk=some (g,cap)/\a0 = .slice (some ⟨g,0,none⟩) l.length cap/\l.length<=cap/\cap<=maxLen/\∃ cur T,w.heap[g]?=some (.cells cur T (0,0))/\cur.size=cap/\∀ j (h:j<l.length),cur[j]?=some (.int .i64 l[j]))\/(l=[]/\en.blk=none/\a0 = .slice none 0 0)):=by
 ð⟨en,k1,k2,k3,k4⟩:=X5 r0 H0
 &⟨en,k1,k2,by rw [k3];rfl,?_⟩
 rcases k4 with ⟨g,cap,k4,hsv,k5,k6⟩ | ⟨k4,hsv,_,h,he,_⟩
 ·ð⟨cur,T,c1,c2,c3,c4⟩:=int_row k6
  rw [Un,Uw] at hsv
  ~.inl ⟨g,cap,k4,hsv,c3,k6.max,cur,T,c1,c2,c4⟩
 ·~.inr ⟨Vp.1 h,k4,hsv⟩
set_option maxHeartbeats 1000000 in
theorem sort_dcall{l:List Int}(hl:l.length<=1099511627776):DCall Tryz.prog 24 [.own 0 0 l.length] [(0,⟨1,true,false,l.map iC⟩)] (.tup []) [(0,⟨1,true,false,(QeR l).map iC⟩)]:=by
 &⟨enter_ok Tryz.func24 rfl rfl,λw M σ vs hI hS hσ hR=>?_⟩
 have H0:=hS 0 ⟨1,true,false,l.map iC⟩ rfl
 match vs,hR with
 | [a0],hR =>
 have r0:Rep ⟨w,M,σ⟩ a0 (.own 0 0 l.length):=hR.2 0 a0 _ rfl rfl
 ð⟨en,k1,k2,k3,k4⟩:=own_intv r0 H0
 have none_:∀ (ad:Option Addr) c,l=[]->a0 = .slice ad 0 c->Calls Tryz.prog 24 #[a0] w λe w'=>∃ v σ',e = .returned v/\Inv ⟨w,Xof σ,Yof σ⟩ ⟨w',M,σ'⟩/\QcT σ σ'/\Rep ⟨w',M,σ'⟩ v (.tup [])/\(∀ s ob,Sto.get [(0,⟨1,true,false,(QeR l).map iC⟩)] s=some ob->Holds ⟨w',M,σ'⟩ s ob)/\∀ s,idb [(0,(⟨1,true,false,(QeR l).map iC⟩:Ob))] 1<=s->σ' s=none:=λad c h0 ha=>by
  subst h0 ha
  &(Any.slices_Sort_int_none srtLay ad c w).mono ?_
  rintro e w' ⟨rfl,rfl⟩
  ~⟨_,σ,rfl,hI,entR σ,.tup rfl (λi v d hv=>by simp at hv),λs ob h=>hS s ob (by rw [show QeR []=[] by simp [QeR]] at h;~h),λs hs=>hσ s hs⟩
 rcases k4 with ⟨g,cap,k4,rfl,k5,k6,cur,T,c1,c2,c3⟩ | ⟨h0,k4,ha⟩
 ·by_cases h0:l=[]
  ·~none_ _ cap h0 (by rw [h0];rfl)
  ·have hpos:=Yt.2 h0
   have hH:Go.Sort.Holds (Value.int .i64) w g 0 l.toArray:=Lib.holds_of_ints (n:=l.length) (Wl _) (λj hj=>by rw [WS,J8 c1,c3 j hj];simp [List.getD,hj]) (λj hj=>XA c1) |> λk=>by rwa [WR] at k
   &(Any.slices_Sort_int srtLay g 0 cap l w hH ((Vz.1 c1).1) Oo).mono ?_
   rintro e w' ⟨rfl,n,os,rfl⟩
   rw [Lib.putRow_eq_setCells _ w g 0 _ _ n hH Os,show (l.mergeSort λx y=>decide (x<=y))=QeR l from rfl]
   have hg:=Qn g ((QeR l).map (Value.int .i64)) 0 (w.drewN n)
   ð⟨cur',d1,d2⟩:=Q9 ((QeR l).map (Value.int .i64)) 0 (w.drewN n) cur c1 (by rw [Wb,srtL_len];omega)
   have hgw:g<w.heap.size:=(Vz.1 c1).1
   have hsz:w.heap.size<=((w.drewN n).setCells g 0 ((QeR l).map (Value.int .i64))).heap.size:=hg.size
   have hold:∀ k,k<w.heap.size->(Sort.grow ((w.drewN n).setCells g 0 ((QeR l).map (Value.int .i64))) os).heap[k]?=((w.drewN n).setCells g 0 ((QeR l).map (Value.int .i64))).heap[k]?:=λk hk=>by
    show (_++os)[k]?=_
    rw [VS (Vm hk hsz)]
   have hT:=turn_at hI k1 (Sort.grow ((w.drewN n).setCells g 0 ((QeR l).map (Value.int .i64))) os) true (λ_=>k3) hg.os hg.tape hg.output (by
    show w.heap.size<=(_++os).size
    rw [VQ]
    ~Ug hsz (Nat.le_add_right _ _)) (λk hk h=>by
    rw [hold k hk]
    ~hg.block k hk λe=>by
     injection e with e
     subst e
     have:=h _ k4
     rw [k3] at this
     cases this)
   &⟨_,_,rfl,hT.1,hT.2.ent,.tup rfl (λi v d hv=>by simp at hv),λs ob hob=>?_,λs hs=>?_⟩
   ·obtain ⟨rfl,rfl⟩:s=0/\ob=⟨1,true,false,(QeR l).map iC⟩:=by
     rw [Sto.get_cons] at hob
     split at hob
     ·rename_i h;injection hob with hob;~⟨h,hob.symm⟩
     ·cases hob
    have row:Row ⟨Sort.grow ((w.drewN n).setCells g 0 ((QeR l).map (Value.int .i64))) os,M,ZN σ 0 (some { en with mu:=true })⟩ ⟨1,true,false,(QeR l).map iC⟩ g cap:=by
     &int_row_of (T:=T) ((hold g hgw).trans d1) ?_ (by rw [srtL_len];~k5) k6 λj hj=>?_
     ·rw [<- WG,d2,We,We,Wi,Ww,Wb,srtL_len,WG]
      omega
     ·have:cur'.toList[j]?=some (.int .i64 (QeR l)[j]):=by
       rw [d2,Y4,VV,WM (by rw [Wb];~hj),Wh,Wa hj]
       rfl
      simpa using this
    ~Holds.of (e:={ en with mu:=true }) (by dsimp only;~Qi _ _ _) k2 rfl k4 row (row.deep rfl _)
   ·have hs:1<=s:=hs
    show ZN σ 0 _ s=none
    rw [QZ _ _ Oo]
    ~hσ s hs
 ·~none_ none 0 h0 ha
noncomputable def JI(xs:List Int):Option (List Int):=if xs.length<=1099511627776 then some (QeR xs) else none
theorem Qd6{xs r:List Int}(H:Sm (JI xs) r):DCall Tryz.prog 24 [.own 0 0 xs.length] [(0,⟨1,true,false,xs.map iC⟩)] (.tup []) [(0,⟨1,true,false,r.map iC⟩)]:=by
 ð⟨h1,h2⟩:=cq H
 have e:=se h2
 subst e
 ~sort_dcall h1
end Go.Proofs.YtkfnkecgcdhncaaGreat
