/- Parts of the proof. No condition. -/
import Derived.Test.YtkfnkecgcdhncaaGreatQM0
import Derived.Test.YtkfnkecgcdhncaaGreatQM2
import Derived.Test.YtkfnkecgcdhncaaGreatChecked
import Derived.KernelRfl
import Derived.Shelf.Sort.Plain
import Derived.Shelf.Slices.In.SortNone
import Derived.Shelf.Slices.Cells
noncomputable section
namespace Go.Proofs.YtkfnkecgcdhncaaGreat
open Go.RowKit
set_option linter.unusedSimpArgs false
set_option linter.unusedVariables false
instance i2:TyI Tryz.prog 2 ⟨.int .i64,1,8,[.lit (Value.int IntKind.i64 0)]⟩:=⟨⟨Tryz.underlying2,Ok,⟨Value.int IntKind.i64 0,Ok,Ok,Ok,rfl⟩⟩⟩
instance i3:TyI Tryz.prog 3 ⟨.int .i64,1,8,[.lit (Value.int IntKind.i64 0)]⟩:=⟨⟨Tryz.underlying3,Ok,⟨Value.int IntKind.i64 0,Ok,Ok,Ok,rfl⟩⟩⟩
instance i4:TyI Tryz.prog 4 ⟨.bool,1,1,[.lit (Value.bool false)]⟩:=⟨⟨Tryz.underlying4,Ok,⟨Value.bool false,Ok,Ok,Ok,rfl⟩⟩⟩
instance i5:TyI Tryz.prog 5 ⟨.int .u8,1,1,[.lit (Value.int IntKind.u8 0)]⟩:=⟨⟨Tryz.underlying5,Ok,⟨Value.int IntKind.u8 0,Ok,Ok,Ok,rfl⟩⟩⟩
instance i6:TyI Tryz.prog 6 ⟨.int .u8,1,1,[.lit (Value.int IntKind.u8 0)]⟩:=⟨⟨Tryz.underlying6,Ok,⟨Value.int IntKind.u8 0,Ok,Ok,Ok,rfl⟩⟩⟩
instance i7:TyI Tryz.prog 7 ⟨.struct [(0,1),(1,1),(2,1),(3,1)],4,24,[.lit (Value.int IntKind.i64 0),.lit (Value.int IntKind.i64 0),.lit (Value.bool false),.lit (Value.int IntKind.u8 0)]⟩:=⟨⟨⟨_,Tryz.underlying7,Ok,Ok⟩,Ok,⟨Value.agg #[Value.int IntKind.i64 0,Value.int IntKind.i64 0,Value.bool false,Value.int IntKind.u8 0],Ok,Ok,Ok,⟨_,rfl⟩⟩⟩⟩
instance i8:TyI Tryz.prog 8 ⟨.struct [(0,1),(1,1),(2,1),(3,1)],4,24,[.lit (Value.int IntKind.i64 0),.lit (Value.int IntKind.i64 0),.lit (Value.bool false),.lit (Value.int IntKind.u8 0)]⟩:=⟨⟨⟨_,Tryz.underlying8,Ok,Ok⟩,Ok,⟨Value.agg #[Value.int IntKind.i64 0,Value.int IntKind.i64 0,Value.bool false,Value.int IntKind.u8 0],Ok,Ok,Ok,⟨_,rfl⟩⟩⟩⟩
instance i9:TyI Tryz.prog 9 ⟨.str,1,16,[.lit (Value.string { data:=#[] })]⟩:=⟨⟨Tryz.underlying9,Ok,⟨Value.string { data:=#[] },Ok,Ok,Ok,rfl⟩⟩⟩
instance i10:TyI Tryz.prog 10 ⟨.str,1,16,[.lit (Value.string { data:=#[] })]⟩:=⟨⟨Tryz.underlying10,Ok,⟨Value.string { data:=#[] },Ok,Ok,Ok,rfl⟩⟩⟩
instance i11:TyI Tryz.prog 11 ⟨.str,1,16,[.lit (Value.string { data:=#[] })]⟩:=⟨⟨Tryz.underlying11,Ok,⟨Value.string { data:=#[] },Ok,Ok,Ok,rfl⟩⟩⟩
instance i12:TyI Tryz.prog 12 ⟨.int .u64,1,8,[.lit (Value.int IntKind.u64 0)]⟩:=⟨⟨Tryz.underlying12,Ok,⟨Value.int IntKind.u64 0,Ok,Ok,Ok,rfl⟩⟩⟩
instance i13:TyI Tryz.prog 13 ⟨.struct [(0,1),(1,1)],2,24,[.lit (Value.string { data:=#[] }),.lit (Value.int IntKind.u64 0)]⟩:=⟨⟨⟨_,Tryz.underlying13,Ok,Ok⟩,Ok,⟨Value.agg #[Value.string { data:=#[] },Value.int IntKind.u64 0],Ok,Ok,Ok,⟨_,rfl⟩⟩⟩⟩
instance i14:TyI Tryz.prog 14 ⟨.struct [(0,1),(1,1)],2,24,[.lit (Value.string { data:=#[] }),.lit (Value.int IntKind.u64 0)]⟩:=⟨⟨⟨_,Tryz.underlying14,Ok,Ok⟩,Ok,⟨Value.agg #[Value.string { data:=#[] },Value.int IntKind.u64 0],Ok,Ok,Ok,⟨_,rfl⟩⟩⟩⟩
instance i15:TyI Tryz.prog 15 ⟨.ptr 268,1,8,[.lit (Value.pointer none)]⟩:=⟨⟨Tryz.underlying15,Ok,⟨Value.pointer none,Ok,Ok,Ok,rfl⟩⟩⟩
instance i16:TyI Tryz.prog 16 ⟨.ptr 271,1,8,[.lit (Value.pointer none)]⟩:=⟨⟨Tryz.underlying16,Ok,⟨Value.pointer none,Ok,Ok,Ok,rfl⟩⟩⟩
instance i17:TyI Tryz.prog 17 ⟨.ptr 279,1,8,[.lit (Value.pointer none)]⟩:=⟨⟨Tryz.underlying17,Ok,⟨Value.pointer none,Ok,Ok,Ok,rfl⟩⟩⟩
instance i18:TyI Tryz.prog 18 ⟨.struct [(0,1)],1,8,[.lit (Value.pointer none)]⟩:=⟨⟨⟨_,Tryz.underlying18,Ok,Ok⟩,Ok,⟨Value.agg #[Value.pointer none],Ok,Ok,Ok,⟨_,rfl⟩⟩⟩⟩
instance i19:TyI Tryz.prog 19 ⟨.struct [(0,1)],1,8,[.lit (Value.pointer none)]⟩:=⟨⟨⟨_,Tryz.underlying19,Ok,Ok⟩,Ok,⟨Value.agg #[Value.pointer none],Ok,Ok,Ok,⟨_,rfl⟩⟩⟩⟩
instance i21:TyI Tryz.prog 21 ⟨.int .i32,1,4,[.lit (Value.int IntKind.i32 0)]⟩:=⟨⟨Tryz.underlying21,Ok,⟨Value.int IntKind.i32 0,Ok,Ok,Ok,rfl⟩⟩⟩
instance i22:TyI Tryz.prog 22 ⟨.slice 3,1,24,[.lit (Value.slice none 0 0)]⟩:=⟨⟨Tryz.underlying22,Ok,⟨Value.slice none 0 0,Ok,Ok,Ok,rfl⟩⟩⟩
instance i23:TyI Tryz.prog 23 ⟨.slice 111,1,24,[.lit (Value.slice none 0 0)]⟩:=⟨⟨Tryz.underlying23,Ok,⟨Value.slice none 0 0,Ok,Ok,Ok,rfl⟩⟩⟩
instance i24:TyI Tryz.prog 24 ⟨.struct [(0,1),(1,1),(2,1)],3,48,[.lit (Value.string { data:=#[] }),.lit (Value.slice none 0 0),.lit (Value.int IntKind.i64 0)]⟩:=⟨⟨⟨_,Tryz.underlying24,Ok,Ok⟩,Ok,⟨Value.agg #[Value.string { data:=#[] },Value.slice none 0 0,Value.int IntKind.i64 0],Ok,Ok,Ok,⟨_,rfl⟩⟩⟩⟩
instance i25:TyI Tryz.prog 25 ⟨.struct [(0,1),(1,1),(2,1)],3,48,[.lit (Value.string { data:=#[] }),.lit (Value.slice none 0 0),.lit (Value.int IntKind.i64 0)]⟩:=⟨⟨⟨_,Tryz.underlying25,Ok,Ok⟩,Ok,⟨Value.agg #[Value.string { data:=#[] },Value.slice none 0 0,Value.int IntKind.i64 0],Ok,Ok,Ok,⟨_,rfl⟩⟩⟩⟩
instance i26:TyI Tryz.prog 26 ⟨.slice 61,1,24,[.lit (Value.slice none 0 0)]⟩:=⟨⟨Tryz.underlying26,Ok,⟨Value.slice none 0 0,Ok,Ok,Ok,rfl⟩⟩⟩
instance i27:TyI Tryz.prog 27 ⟨.slice 66,1,24,[.lit (Value.slice none 0 0)]⟩:=⟨⟨Tryz.underlying27,Ok,⟨Value.slice none 0 0,Ok,Ok,Ok,rfl⟩⟩⟩
instance i28:TyI Tryz.prog 28 ⟨.struct [(0,1),(1,1),(2,1)],3,56,[.lit (Value.int IntKind.i64 0),.lit (Value.slice none 0 0),.lit (Value.slice none 0 0)]⟩:=⟨⟨⟨_,Tryz.underlying28,Ok,Ok⟩,Ok,⟨Value.agg #[Value.int IntKind.i64 0,Value.slice none 0 0,Value.slice none 0 0],Ok,Ok,Ok,⟨_,rfl⟩⟩⟩⟩
instance i29:TyI Tryz.prog 29 ⟨.struct [(0,1),(1,1),(2,1)],3,56,[.lit (Value.int IntKind.i64 0),.lit (Value.slice none 0 0),.lit (Value.slice none 0 0)]⟩:=⟨⟨⟨_,Tryz.underlying29,Ok,Ok⟩,Ok,⟨Value.agg #[Value.int IntKind.i64 0,Value.slice none 0 0,Value.slice none 0 0],Ok,Ok,Ok,⟨_,rfl⟩⟩⟩⟩
instance i30:TyI Tryz.prog 30 ⟨.slice 52,1,24,[.lit (Value.slice none 0 0)]⟩:=⟨⟨Tryz.underlying30,Ok,⟨Value.slice none 0 0,Ok,Ok,Ok,rfl⟩⟩⟩
instance i31:TyI Tryz.prog 31 ⟨.slice 81,1,24,[.lit (Value.slice none 0 0)]⟩:=⟨⟨Tryz.underlying31,Ok,⟨Value.slice none 0 0,Ok,Ok,Ok,rfl⟩⟩⟩
instance i32:TyI Tryz.prog 32 ⟨.slice 4,1,24,[.lit (Value.slice none 0 0)]⟩:=⟨⟨Tryz.underlying32,Ok,⟨Value.slice none 0 0,Ok,Ok,Ok,rfl⟩⟩⟩
instance i33:TyI Tryz.prog 33 ⟨.struct [(0,1),(1,1)],2,48,[.lit (Value.slice none 0 0),.lit (Value.slice none 0 0)]⟩:=⟨⟨⟨_,Tryz.underlying33,Ok,Ok⟩,Ok,⟨Value.agg #[Value.slice none 0 0,Value.slice none 0 0],Ok,Ok,Ok,⟨_,rfl⟩⟩⟩⟩
instance i34:TyI Tryz.prog 34 ⟨.struct [(0,1),(1,1)],2,48,[.lit (Value.slice none 0 0),.lit (Value.slice none 0 0)]⟩:=⟨⟨⟨_,Tryz.underlying34,Ok,Ok⟩,Ok,⟨Value.agg #[Value.slice none 0 0,Value.slice none 0 0],Ok,Ok,Ok,⟨_,rfl⟩⟩⟩⟩
instance i35:TyI Tryz.prog 35 ⟨.struct [(0,1),(1,1),(2,1),(3,1),(4,1),(5,1),(6,1),(7,1),(8,1)],9,72,List.replicate 9 (.lit (Value.int IntKind.i64 0))⟩:=⟨⟨⟨_,Tryz.underlying35,Ok,Ok⟩,Ok,⟨Value.agg #[Value.int IntKind.i64 0,Value.int IntKind.i64 0,Value.int IntKind.i64 0,Value.int IntKind.i64 0,Value.int IntKind.i64 0,Value.int IntKind.i64 0,Value.int IntKind.i64 0,Value.int IntKind.i64 0,Value.int IntKind.i64 0],Ok,Ok,Ok,⟨_,rfl⟩⟩⟩⟩
instance i36:TyI Tryz.prog 36 ⟨.struct [(0,1),(1,1),(2,1),(3,1),(4,1),(5,1),(6,1),(7,1),(8,1)],9,72,List.replicate 9 (.lit (Value.int IntKind.i64 0))⟩:=⟨⟨⟨_,Tryz.underlying36,Ok,Ok⟩,Ok,⟨Value.agg #[Value.int IntKind.i64 0,Value.int IntKind.i64 0,Value.int IntKind.i64 0,Value.int IntKind.i64 0,Value.int IntKind.i64 0,Value.int IntKind.i64 0,Value.int IntKind.i64 0,Value.int IntKind.i64 0,Value.int IntKind.i64 0],Ok,Ok,Ok,⟨_,rfl⟩⟩⟩⟩
instance i37:TyI Tryz.prog 37 ⟨.struct [(0,3),(3,3),(6,1),(7,1),(8,1),(9,2),(11,1),(12,9),(21,1)],22,296,[.lit (Value.string { data:=#[] }),.lit (Value.slice none 0 0),.lit (Value.int IntKind.i64 0),.lit (Value.int IntKind.i64 0),.lit (Value.slice none 0 0),.lit (Value.slice none 0 0),.lit (Value.slice none 0 0),.lit (Value.int IntKind.i64 0),.lit (Value.slice none 0 0),.lit (Value.slice none 0 0),.lit (Value.slice none 0 0),.lit (Value.int IntKind.i64 0),.lit (Value.int IntKind.i64 0),.lit (Value.int IntKind.i64 0),.lit (Value.int IntKind.i64 0),.lit (Value.int IntKind.i64 0),.lit (Value.int IntKind.i64 0),.lit (Value.int IntKind.i64 0),.lit (Value.int IntKind.i64 0),.lit (Value.int IntKind.i64 0),.lit (Value.int IntKind.i64 0),.lit (Value.bool false)]⟩:=⟨⟨⟨_,Tryz.underlying37,Ok,Ok⟩,Ok,⟨Value.agg #[Value.string { data:=#[] },Value.slice none 0 0,Value.int IntKind.i64 0,Value.int IntKind.i64 0,Value.slice none 0 0,Value.slice none 0 0,Value.slice none 0 0,Value.int IntKind.i64 0,Value.slice none 0 0,Value.slice none 0 0,Value.slice none 0 0,Value.int IntKind.i64 0,Value.int IntKind.i64 0,Value.int IntKind.i64 0,Value.int IntKind.i64 0,Value.int IntKind.i64 0,Value.int IntKind.i64 0,Value.int IntKind.i64 0,Value.int IntKind.i64 0,Value.int IntKind.i64 0,Value.int IntKind.i64 0,Value.bool false],Ok,Ok,Ok,⟨_,rfl⟩⟩⟩⟩
instance i38:TyI Tryz.prog 38 ⟨.struct [(0,3),(3,3),(6,1),(7,1),(8,1),(9,2),(11,1),(12,9),(21,1)],22,296,[.lit (Value.string { data:=#[] }),.lit (Value.slice none 0 0),.lit (Value.int IntKind.i64 0),.lit (Value.int IntKind.i64 0),.lit (Value.slice none 0 0),.lit (Value.slice none 0 0),.lit (Value.slice none 0 0),.lit (Value.int IntKind.i64 0),.lit (Value.slice none 0 0),.lit (Value.slice none 0 0),.lit (Value.slice none 0 0),.lit (Value.int IntKind.i64 0),.lit (Value.int IntKind.i64 0),.lit (Value.int IntKind.i64 0),.lit (Value.int IntKind.i64 0),.lit (Value.int IntKind.i64 0),.lit (Value.int IntKind.i64 0),.lit (Value.int IntKind.i64 0),.lit (Value.int IntKind.i64 0),.lit (Value.int IntKind.i64 0),.lit (Value.int IntKind.i64 0),.lit (Value.bool false)]⟩:=⟨⟨⟨_,Tryz.underlying38,Ok,Ok⟩,Ok,⟨Value.agg #[Value.string { data:=#[] },Value.slice none 0 0,Value.int IntKind.i64 0,Value.int IntKind.i64 0,Value.slice none 0 0,Value.slice none 0 0,Value.slice none 0 0,Value.int IntKind.i64 0,Value.slice none 0 0,Value.slice none 0 0,Value.slice none 0 0,Value.int IntKind.i64 0,Value.int IntKind.i64 0,Value.int IntKind.i64 0,Value.int IntKind.i64 0,Value.int IntKind.i64 0,Value.int IntKind.i64 0,Value.int IntKind.i64 0,Value.int IntKind.i64 0,Value.int IntKind.i64 0,Value.int IntKind.i64 0,Value.bool false],Ok,Ok,Ok,⟨_,rfl⟩⟩⟩⟩
instance i39:TyI Tryz.prog 39 ⟨.slice 149,1,24,[.lit (Value.slice none 0 0)]⟩:=⟨⟨Tryz.underlying39,Ok,⟨Value.slice none 0 0,Ok,Ok,Ok,rfl⟩⟩⟩
instance i40:TyI Tryz.prog 40 ⟨.struct [(0,1),(1,1),(2,1)],3,72,[.lit (Value.slice none 0 0),.lit (Value.slice none 0 0),.lit (Value.slice none 0 0)]⟩:=⟨⟨⟨_,Tryz.underlying40,Ok,Ok⟩,Ok,⟨Value.agg #[Value.slice none 0 0,Value.slice none 0 0,Value.slice none 0 0],Ok,Ok,Ok,⟨_,rfl⟩⟩⟩⟩
instance i41:TyI Tryz.prog 41 ⟨.struct [(0,1),(1,1),(2,1)],3,72,[.lit (Value.slice none 0 0),.lit (Value.slice none 0 0),.lit (Value.slice none 0 0)]⟩:=⟨⟨⟨_,Tryz.underlying41,Ok,Ok⟩,Ok,⟨Value.agg #[Value.slice none 0 0,Value.slice none 0 0,Value.slice none 0 0],Ok,Ok,Ok,⟨_,rfl⟩⟩⟩⟩
instance i44:TyI Tryz.prog 44 ⟨.ptr 73,1,8,[.lit (Value.pointer none)]⟩:=⟨⟨Tryz.underlying44,Ok,⟨Value.pointer none,Ok,Ok,Ok,rfl⟩⟩⟩
instance i47:TyI Tryz.prog 47 ⟨.slice 31,1,24,[.lit (Value.slice none 0 0)]⟩:=⟨⟨Tryz.underlying47,Ok,⟨Value.slice none 0 0,Ok,Ok,Ok,rfl⟩⟩⟩
instance i52:TyI Tryz.prog 52 ⟨.slice 56,1,24,[.lit (Value.slice none 0 0)]⟩:=⟨⟨Tryz.underlying52,Ok,⟨Value.slice none 0 0,Ok,Ok,Ok,rfl⟩⟩⟩
instance i54:TyI Tryz.prog 54 ⟨.slice 68,1,24,[.lit (Value.slice none 0 0)]⟩:=⟨⟨Tryz.underlying54,Ok,⟨Value.slice none 0 0,Ok,Ok,Ok,rfl⟩⟩⟩
instance i55:TyI Tryz.prog 55 ⟨.struct [(0,1),(1,1),(2,1),(3,1),(4,1)],5,40,[.lit (Value.int IntKind.i64 0),.lit (Value.int IntKind.i64 0),.lit (Value.int IntKind.i64 0),.lit (Value.int IntKind.i64 0),.lit (Value.int IntKind.i64 0)]⟩:=⟨⟨⟨_,Tryz.underlying55,Ok,Ok⟩,Ok,⟨Value.agg #[Value.int IntKind.i64 0,Value.int IntKind.i64 0,Value.int IntKind.i64 0,Value.int IntKind.i64 0,Value.int IntKind.i64 0],Ok,Ok,Ok,⟨_,rfl⟩⟩⟩⟩
instance i56:TyI Tryz.prog 56 ⟨.struct [(0,1),(1,1),(2,1),(3,1),(4,1)],5,40,[.lit (Value.int IntKind.i64 0),.lit (Value.int IntKind.i64 0),.lit (Value.int IntKind.i64 0),.lit (Value.int IntKind.i64 0),.lit (Value.int IntKind.i64 0)]⟩:=⟨⟨⟨_,Tryz.underlying56,Ok,Ok⟩,Ok,⟨Value.agg #[Value.int IntKind.i64 0,Value.int IntKind.i64 0,Value.int IntKind.i64 0,Value.int IntKind.i64 0,Value.int IntKind.i64 0],Ok,Ok,Ok,⟨_,rfl⟩⟩⟩⟩
instance i57:TyI Tryz.prog 57 ⟨.int .i64,1,8,[.lit (Value.int IntKind.i64 0)]⟩:=⟨⟨Tryz.underlying57,Ok,⟨Value.int IntKind.i64 0,Ok,Ok,Ok,rfl⟩⟩⟩
instance i61:TyI Tryz.prog 61 ⟨.int .u64,1,8,[.lit (Value.int IntKind.u64 0)]⟩:=⟨⟨Tryz.underlying61,Ok,⟨Value.int IntKind.u64 0,Ok,Ok,Ok,rfl⟩⟩⟩
instance i64:TyI Tryz.prog 64 ⟨.int .u64,1,8,[.lit (Value.int IntKind.u64 0)]⟩:=⟨⟨Tryz.underlying64,Ok,⟨Value.int IntKind.u64 0,Ok,Ok,Ok,rfl⟩⟩⟩
instance i65:TyI Tryz.prog 65 ⟨.struct [(0,1),(1,1),(2,1)],3,24,[.lit (Value.int IntKind.i64 0),.lit (Value.int IntKind.i64 0),.lit (Value.int IntKind.i64 0)]⟩:=⟨⟨⟨_,Tryz.underlying65,Ok,Ok⟩,Ok,⟨Value.agg #[Value.int IntKind.i64 0,Value.int IntKind.i64 0,Value.int IntKind.i64 0],Ok,Ok,Ok,⟨_,rfl⟩⟩⟩⟩
instance i66:TyI Tryz.prog 66 ⟨.struct [(0,1),(1,1),(2,1)],3,24,[.lit (Value.int IntKind.i64 0),.lit (Value.int IntKind.i64 0),.lit (Value.int IntKind.i64 0)]⟩:=⟨⟨⟨_,Tryz.underlying66,Ok,Ok⟩,Ok,⟨Value.agg #[Value.int IntKind.i64 0,Value.int IntKind.i64 0,Value.int IntKind.i64 0],Ok,Ok,Ok,⟨_,rfl⟩⟩⟩⟩
instance i67:TyI Tryz.prog 67 ⟨.struct [(0,1),(1,1),(2,1)],3,24,[.lit (Value.int IntKind.i64 0),.lit (Value.int IntKind.i64 0),.lit (Value.int IntKind.i64 0)]⟩:=⟨⟨⟨_,Tryz.underlying67,Ok,Ok⟩,Ok,⟨Value.agg #[Value.int IntKind.i64 0,Value.int IntKind.i64 0,Value.int IntKind.i64 0],Ok,Ok,Ok,⟨_,rfl⟩⟩⟩⟩
instance i68:TyI Tryz.prog 68 ⟨.struct [(0,1),(1,1),(2,1)],3,24,[.lit (Value.int IntKind.i64 0),.lit (Value.int IntKind.i64 0),.lit (Value.int IntKind.i64 0)]⟩:=⟨⟨⟨_,Tryz.underlying68,Ok,Ok⟩,Ok,⟨Value.agg #[Value.int IntKind.i64 0,Value.int IntKind.i64 0,Value.int IntKind.i64 0],Ok,Ok,Ok,⟨_,rfl⟩⟩⟩⟩
instance i72:TyI Tryz.prog 72 ⟨.struct [(0,1),(1,1)],2,32,[.lit (Value.slice none 0 0),.lit (Value.int IntKind.i64 0)]⟩:=⟨⟨⟨_,Tryz.underlying72,Ok,Ok⟩,Ok,⟨Value.agg #[Value.slice none 0 0,Value.int IntKind.i64 0],Ok,Ok,Ok,⟨_,rfl⟩⟩⟩⟩
instance i73:TyI Tryz.prog 73 ⟨.struct [(0,1),(1,1)],2,32,[.lit (Value.slice none 0 0),.lit (Value.int IntKind.i64 0)]⟩:=⟨⟨⟨_,Tryz.underlying73,Ok,Ok⟩,Ok,⟨Value.agg #[Value.slice none 0 0,Value.int IntKind.i64 0],Ok,Ok,Ok,⟨_,rfl⟩⟩⟩⟩
instance i80:TyI Tryz.prog 80 ⟨.struct [(0,1),(1,1),(2,1)],3,40,[.lit (Value.int IntKind.i64 0),.lit (Value.int IntKind.i64 0),.lit (Value.slice none 0 0)]⟩:=⟨⟨⟨_,Tryz.underlying80,Ok,Ok⟩,Ok,⟨Value.agg #[Value.int IntKind.i64 0,Value.int IntKind.i64 0,Value.slice none 0 0],Ok,Ok,Ok,⟨_,rfl⟩⟩⟩⟩
instance i81:TyI Tryz.prog 81 ⟨.struct [(0,1),(1,1),(2,1)],3,40,[.lit (Value.int IntKind.i64 0),.lit (Value.int IntKind.i64 0),.lit (Value.slice none 0 0)]⟩:=⟨⟨⟨_,Tryz.underlying81,Ok,Ok⟩,Ok,⟨Value.agg #[Value.int IntKind.i64 0,Value.int IntKind.i64 0,Value.slice none 0 0],Ok,Ok,Ok,⟨_,rfl⟩⟩⟩⟩
instance i96:TyI Tryz.prog 96 ⟨.struct [(0,1),(1,1),(2,1),(3,1)],4,32,[.lit (Value.int IntKind.i64 0),.lit (Value.int IntKind.i64 0),.lit (Value.int IntKind.i64 0),.lit (Value.int IntKind.i64 0)]⟩:=⟨⟨⟨_,Tryz.underlying96,Ok,Ok⟩,Ok,⟨Value.agg #[Value.int IntKind.i64 0,Value.int IntKind.i64 0,Value.int IntKind.i64 0,Value.int IntKind.i64 0],Ok,Ok,Ok,⟨_,rfl⟩⟩⟩⟩
instance i97:TyI Tryz.prog 97 ⟨.struct [(0,1),(1,1),(2,1),(3,1)],4,32,[.lit (Value.int IntKind.i64 0),.lit (Value.int IntKind.i64 0),.lit (Value.int IntKind.i64 0),.lit (Value.int IntKind.i64 0)]⟩:=⟨⟨⟨_,Tryz.underlying97,Ok,Ok⟩,Ok,⟨Value.agg #[Value.int IntKind.i64 0,Value.int IntKind.i64 0,Value.int IntKind.i64 0,Value.int IntKind.i64 0],Ok,Ok,Ok,⟨_,rfl⟩⟩⟩⟩
instance i99:TyI Tryz.prog 99 ⟨.struct [(0,1),(1,1)],2,16,[.lit (Value.int IntKind.i64 0),.lit (Value.int IntKind.u64 0)]⟩:=⟨⟨⟨_,Tryz.underlying99,Ok,Ok⟩,Ok,⟨Value.agg #[Value.int IntKind.i64 0,Value.int IntKind.u64 0],Ok,Ok,Ok,⟨_,rfl⟩⟩⟩⟩
instance i100:TyI Tryz.prog 100 ⟨.struct [(0,1),(1,1)],2,16,[.lit (Value.int IntKind.i64 0),.lit (Value.int IntKind.u64 0)]⟩:=⟨⟨⟨_,Tryz.underlying100,Ok,Ok⟩,Ok,⟨Value.agg #[Value.int IntKind.i64 0,Value.int IntKind.u64 0],Ok,Ok,Ok,⟨_,rfl⟩⟩⟩⟩
instance i107:TyI Tryz.prog 107 ⟨.slice 9,1,24,[.lit (Value.slice none 0 0)]⟩:=⟨⟨Tryz.underlying107,Ok,⟨Value.slice none 0 0,Ok,Ok,Ok,rfl⟩⟩⟩
instance i109:TyI Tryz.prog 109 ⟨.flt .f64,1,8,[.lit (Value.float FloatKind.f64 0)]⟩:=⟨⟨Tryz.underlying109,Ok,⟨Value.float FloatKind.f64 0,Ok,Ok,Ok,rfl⟩⟩⟩
instance i110:TyI Tryz.prog 110 ⟨.struct [(0,1),(1,1),(2,1),(3,1)],4,32,[.lit (Value.float FloatKind.f64 0),.lit (Value.int IntKind.i64 0),.lit (Value.int IntKind.i64 0),.lit (Value.int IntKind.i64 0)]⟩:=⟨⟨⟨_,Tryz.underlying110,Ok,Ok⟩,Ok,⟨Value.agg #[Value.float FloatKind.f64 0,Value.int IntKind.i64 0,Value.int IntKind.i64 0,Value.int IntKind.i64 0],Ok,Ok,Ok,⟨_,rfl⟩⟩⟩⟩
instance Qa9:TyI Tryz.prog 111 ⟨.struct [(0,1),(1,1),(2,1),(3,1)],4,32,[.lit (Value.float FloatKind.f64 0),.lit (Value.int IntKind.i64 0),.lit (Value.int IntKind.i64 0),.lit (Value.int IntKind.i64 0)]⟩:=⟨⟨⟨_,Tryz.underlying111,Ok,Ok⟩,Ok,⟨Value.agg #[Value.float FloatKind.f64 0,Value.int IntKind.i64 0,Value.int IntKind.i64 0,Value.int IntKind.i64 0],Ok,Ok,Ok,⟨_,rfl⟩⟩⟩⟩
instance i115:TyI Tryz.prog 115 ⟨.struct [(0,3),(3,1),(4,1),(5,1)],6,80,[.lit (Value.int IntKind.i64 0),.lit (Value.slice none 0 0),.lit (Value.slice none 0 0),.lit (Value.int IntKind.i64 0),.lit (Value.int IntKind.i64 0),.lit (Value.int IntKind.i64 0)]⟩:=⟨⟨⟨_,Tryz.underlying115,Ok,Ok⟩,Ok,⟨Value.agg #[Value.int IntKind.i64 0,Value.slice none 0 0,Value.slice none 0 0,Value.int IntKind.i64 0,Value.int IntKind.i64 0,Value.int IntKind.i64 0],Ok,Ok,Ok,⟨_,rfl⟩⟩⟩⟩
instance i116:TyI Tryz.prog 116 ⟨.struct [(0,3),(3,1),(4,1),(5,1)],6,80,[.lit (Value.int IntKind.i64 0),.lit (Value.slice none 0 0),.lit (Value.slice none 0 0),.lit (Value.int IntKind.i64 0),.lit (Value.int IntKind.i64 0),.lit (Value.int IntKind.i64 0)]⟩:=⟨⟨⟨_,Tryz.underlying116,Ok,Ok⟩,Ok,⟨Value.agg #[Value.int IntKind.i64 0,Value.slice none 0 0,Value.slice none 0 0,Value.int IntKind.i64 0,Value.int IntKind.i64 0,Value.int IntKind.i64 0],Ok,Ok,Ok,⟨_,rfl⟩⟩⟩⟩
instance i148:TyI Tryz.prog 148 ⟨.struct [(0,1),(1,1)],2,48,[.lit (Value.slice none 0 0),.lit (Value.slice none 0 0)]⟩:=⟨⟨⟨_,Tryz.underlying148,Ok,Ok⟩,Ok,⟨Value.agg #[Value.slice none 0 0,Value.slice none 0 0],Ok,Ok,Ok,⟨_,rfl⟩⟩⟩⟩
instance i149:TyI Tryz.prog 149 ⟨.struct [(0,1),(1,1)],2,48,[.lit (Value.slice none 0 0),.lit (Value.slice none 0 0)]⟩:=⟨⟨⟨_,Tryz.underlying149,Ok,Ok⟩,Ok,⟨Value.agg #[Value.slice none 0 0,Value.slice none 0 0],Ok,Ok,Ok,⟨_,rfl⟩⟩⟩⟩
instance i154:TyI Tryz.prog 154 ⟨.slice 109,1,24,[.lit (Value.slice none 0 0)]⟩:=⟨⟨Tryz.underlying154,Ok,⟨Value.slice none 0 0,Ok,Ok,Ok,rfl⟩⟩⟩
instance i159:TyI Tryz.prog 159 ⟨.int .i64,1,8,[.lit (Value.int IntKind.i64 0)]⟩:=⟨⟨Tryz.underlying159,Ok,⟨Value.int IntKind.i64 0,Ok,Ok,Ok,rfl⟩⟩⟩
instance i166:TyI Tryz.prog 166 ⟨.int .u32,1,4,[.lit (Value.int IntKind.u32 0)]⟩:=⟨⟨Tryz.underlying166,Ok,⟨Value.int IntKind.u32 0,Ok,Ok,Ok,rfl⟩⟩⟩
instance i172:TyI Tryz.prog 172 ⟨.array 4 4,4,4,[.lit (Value.bool false),.lit (Value.bool false),.lit (Value.bool false),.lit (Value.bool false)]⟩:=⟨⟨Tryz.underlying172,Ok,⟨Value.agg #[Value.bool false,Value.bool false,Value.bool false,Value.bool false],Ok,Ok,Ok,⟨_,rfl⟩⟩⟩⟩
instance i196:TyI Tryz.prog 196 ⟨.int .u64,1,8,[.lit (Value.int IntKind.u64 0)]⟩:=⟨⟨Tryz.underlying196,Ok,⟨Value.int IntKind.u64 0,Ok,Ok,Ok,rfl⟩⟩⟩
instance i200:TyI Tryz.prog 200 ⟨.ptr 3,1,8,[.lit (Value.pointer none)]⟩:=⟨⟨Tryz.underlying200,Ok,⟨Value.pointer none,Ok,Ok,Ok,rfl⟩⟩⟩
instance i219:TyI Tryz.prog 219 ⟨.ptr 196,1,8,[.lit (Value.pointer none)]⟩:=⟨⟨Tryz.underlying219,Ok,⟨Value.pointer none,Ok,Ok,Ok,rfl⟩⟩⟩
instance i230:TyI Tryz.prog 230 ⟨.struct [(0,1),(1,1),(2,1)],3,24,[.lit (Value.int IntKind.i64 0),.lit (Value.bool false),.lit (Value.int IntKind.i64 0)]⟩:=⟨⟨⟨_,Tryz.underlying230,Ok,Ok⟩,Ok,⟨Value.agg #[Value.int IntKind.i64 0,Value.bool false,Value.int IntKind.i64 0],Ok,Ok,Ok,⟨_,rfl⟩⟩⟩⟩
instance i231:TyI Tryz.prog 231 ⟨.struct [(0,1),(1,1),(2,1)],3,24,[.lit (Value.int IntKind.i64 0),.lit (Value.bool false),.lit (Value.int IntKind.i64 0)]⟩:=⟨⟨⟨_,Tryz.underlying231,Ok,Ok⟩,Ok,⟨Value.agg #[Value.int IntKind.i64 0,Value.bool false,Value.int IntKind.i64 0],Ok,Ok,Ok,⟨_,rfl⟩⟩⟩⟩
instance i235:TyI Tryz.prog 235 ⟨.struct [(0,1),(1,1),(2,1),(3,1)],4,32,[.lit (Value.int IntKind.i64 0),.lit (Value.int IntKind.i64 0),.lit (Value.int IntKind.i64 0),.lit (Value.int IntKind.i64 0)]⟩:=⟨⟨⟨_,Tryz.underlying235,Ok,Ok⟩,Ok,⟨Value.agg #[Value.int IntKind.i64 0,Value.int IntKind.i64 0,Value.int IntKind.i64 0,Value.int IntKind.i64 0],Ok,Ok,Ok,⟨_,rfl⟩⟩⟩⟩
instance i236:TyI Tryz.prog 236 ⟨.struct [(0,1),(1,1),(2,1),(3,1)],4,32,[.lit (Value.int IntKind.i64 0),.lit (Value.int IntKind.i64 0),.lit (Value.int IntKind.i64 0),.lit (Value.int IntKind.i64 0)]⟩:=⟨⟨⟨_,Tryz.underlying236,Ok,Ok⟩,Ok,⟨Value.agg #[Value.int IntKind.i64 0,Value.int IntKind.i64 0,Value.int IntKind.i64 0,Value.int IntKind.i64 0],Ok,Ok,Ok,⟨_,rfl⟩⟩⟩⟩
instance i247:TyI Tryz.prog 247 ⟨.slice 263,1,24,[.lit (Value.slice none 0 0)]⟩:=⟨⟨Tryz.underlying247,Ok,⟨Value.slice none 0 0,Ok,Ok,Ok,rfl⟩⟩⟩
instance i258:TyI Tryz.prog 258 ⟨.ptr 260,1,8,[.lit (Value.pointer none)]⟩:=⟨⟨Tryz.underlying258,Ok,⟨Value.pointer none,Ok,Ok,Ok,rfl⟩⟩⟩
instance i259:TyI Tryz.prog 259 ⟨.struct [(0,3),(3,1),(4,5),(9,1),(10,1)],11,152,[.lit (Value.int IntKind.i64 0),.lit (Value.slice none 0 0),.lit (Value.slice none 0 0),.lit (Value.slice none 0 0),.lit (Value.int IntKind.i64 0),.lit (Value.int IntKind.i64 0),.lit (Value.int IntKind.i64 0),.lit (Value.int IntKind.i64 0),.lit (Value.int IntKind.i64 0),.lit (Value.slice none 0 0),.lit (Value.int IntKind.i64 0)]⟩:=⟨⟨⟨_,Tryz.underlying259,Ok,Ok⟩,Ok,⟨Value.agg #[Value.int IntKind.i64 0,Value.slice none 0 0,Value.slice none 0 0,Value.slice none 0 0,Value.int IntKind.i64 0,Value.int IntKind.i64 0,Value.int IntKind.i64 0,Value.int IntKind.i64 0,Value.int IntKind.i64 0,Value.slice none 0 0,Value.int IntKind.i64 0],Ok,Ok,Ok,⟨_,rfl⟩⟩⟩⟩
instance i260:TyI Tryz.prog 260 ⟨.struct [(0,3),(3,1),(4,5),(9,1),(10,1)],11,152,[.lit (Value.int IntKind.i64 0),.lit (Value.slice none 0 0),.lit (Value.slice none 0 0),.lit (Value.slice none 0 0),.lit (Value.int IntKind.i64 0),.lit (Value.int IntKind.i64 0),.lit (Value.int IntKind.i64 0),.lit (Value.int IntKind.i64 0),.lit (Value.int IntKind.i64 0),.lit (Value.slice none 0 0),.lit (Value.int IntKind.i64 0)]⟩:=⟨⟨⟨_,Tryz.underlying260,Ok,Ok⟩,Ok,⟨Value.agg #[Value.int IntKind.i64 0,Value.slice none 0 0,Value.slice none 0 0,Value.slice none 0 0,Value.int IntKind.i64 0,Value.int IntKind.i64 0,Value.int IntKind.i64 0,Value.int IntKind.i64 0,Value.int IntKind.i64 0,Value.slice none 0 0,Value.int IntKind.i64 0],Ok,Ok,Ok,⟨_,rfl⟩⟩⟩⟩
instance i262:TyI Tryz.prog 262 ⟨.struct [(0,1),(1,1)],2,16,[.lit (Value.int IntKind.i64 0),.lit (Value.int IntKind.i64 0)]⟩:=⟨⟨⟨_,Tryz.underlying262,Ok,Ok⟩,Ok,⟨Value.agg #[Value.int IntKind.i64 0,Value.int IntKind.i64 0],Ok,Ok,Ok,⟨_,rfl⟩⟩⟩⟩
instance i263:TyI Tryz.prog 263 ⟨.struct [(0,1),(1,1)],2,16,[.lit (Value.int IntKind.i64 0),.lit (Value.int IntKind.i64 0)]⟩:=⟨⟨⟨_,Tryz.underlying263,Ok,Ok⟩,Ok,⟨Value.agg #[Value.int IntKind.i64 0,Value.int IntKind.i64 0],Ok,Ok,Ok,⟨_,rfl⟩⟩⟩⟩
instance i267:TyI Tryz.prog 267 ⟨.struct [(0,1),(1,1),(2,1),(3,1)],4,40,[.lit (Value.pointer none),.lit (Value.pointer none),.lit (Value.pointer none),.lit (Value.string { data:=#[] })]⟩:=⟨⟨⟨_,Tryz.underlying267,Ok,Ok⟩,Ok,⟨Value.agg #[Value.pointer none,Value.pointer none,Value.pointer none,Value.string { data:=#[] }],Ok,Ok,Ok,⟨_,rfl⟩⟩⟩⟩
instance i268:TyI Tryz.prog 268 ⟨.struct [(0,1),(1,1),(2,1),(3,1)],4,40,[.lit (Value.pointer none),.lit (Value.pointer none),.lit (Value.pointer none),.lit (Value.string { data:=#[] })]⟩:=⟨⟨⟨_,Tryz.underlying268,Ok,Ok⟩,Ok,⟨Value.agg #[Value.pointer none,Value.pointer none,Value.pointer none,Value.string { data:=#[] }],Ok,Ok,Ok,⟨_,rfl⟩⟩⟩⟩
instance i269:TyI Tryz.prog 269 ⟨.array 0 16,0,0,[]⟩:=⟨⟨Tryz.underlying269,Ok,⟨Value.agg #[],Ok,Ok,Ok,⟨_,rfl⟩⟩⟩⟩
instance i270:TyI Tryz.prog 270 ⟨.struct [(0,0)],0,0,[]⟩:=⟨⟨⟨_,Tryz.underlying270,Ok,Ok⟩,Ok,⟨Value.agg #[],Ok,Ok,Ok,⟨_,rfl⟩⟩⟩⟩
instance i271:TyI Tryz.prog 271 ⟨.struct [(0,0)],0,0,[]⟩:=⟨⟨⟨_,Tryz.underlying271,Ok,Ok⟩,Ok,⟨Value.agg #[],Ok,Ok,Ok,⟨_,rfl⟩⟩⟩⟩
instance i272:TyI Tryz.prog 272 ⟨.int .u8,1,1,[.lit (Value.int IntKind.u8 0)]⟩:=⟨⟨Tryz.underlying272,Ok,⟨Value.int IntKind.u8 0,Ok,Ok,Ok,rfl⟩⟩⟩
instance i273:TyI Tryz.prog 273 ⟨.int .u8,1,1,[.lit (Value.int IntKind.u8 0)]⟩:=⟨⟨Tryz.underlying273,Ok,⟨Value.int IntKind.u8 0,Ok,Ok,Ok,rfl⟩⟩⟩
instance i275:TyI Tryz.prog 275 ⟨.ptr 5,1,8,[.lit (Value.pointer none)]⟩:=⟨⟨Tryz.underlying275,Ok,⟨Value.pointer none,Ok,Ok,Ok,rfl⟩⟩⟩
instance i276:TyI Tryz.prog 276 ⟨.int .i32,1,4,[.lit (Value.int IntKind.i32 0)]⟩:=⟨⟨Tryz.underlying276,Ok,⟨Value.int IntKind.i32 0,Ok,Ok,Ok,rfl⟩⟩⟩
instance i277:TyI Tryz.prog 277 ⟨.int .i32,1,4,[.lit (Value.int IntKind.i32 0)]⟩:=⟨⟨Tryz.underlying277,Ok,⟨Value.int IntKind.i32 0,Ok,Ok,Ok,rfl⟩⟩⟩
instance i278:TyI Tryz.prog 278 ⟨.struct [(0,1),(1,1),(2,1),(3,1),(4,1),(5,1),(6,1),(7,1),(8,1),(9,1),(10,1)],11,48,[.lit (Value.int IntKind.u64 0),.lit (Value.int IntKind.u64 0),.lit (Value.int IntKind.u32 0),.lit (Value.int IntKind.u8 0),.lit (Value.int IntKind.u8 0),.lit (Value.int IntKind.u8 0),.lit (Value.int IntKind.u8 0),.lit (Value.nilFunc),.lit (Value.pointer none),.lit (Value.int IntKind.i32 0),.lit (Value.int IntKind.i32 0)]⟩:=⟨⟨⟨_,Tryz.underlying278,Ok,Ok⟩,Ok,⟨Value.agg #[Value.int IntKind.u64 0,Value.int IntKind.u64 0,Value.int IntKind.u32 0,Value.int IntKind.u8 0,Value.int IntKind.u8 0,Value.int IntKind.u8 0,Value.int IntKind.u8 0,Value.nilFunc,Value.pointer none,Value.int IntKind.i32 0,Value.int IntKind.i32 0],Ok,Ok,Ok,⟨_,rfl⟩⟩⟩⟩
instance i279:TyI Tryz.prog 279 ⟨.struct [(0,1),(1,1),(2,1),(3,1),(4,1),(5,1),(6,1),(7,1),(8,1),(9,1),(10,1)],11,48,[.lit (Value.int IntKind.u64 0),.lit (Value.int IntKind.u64 0),.lit (Value.int IntKind.u32 0),.lit (Value.int IntKind.u8 0),.lit (Value.int IntKind.u8 0),.lit (Value.int IntKind.u8 0),.lit (Value.int IntKind.u8 0),.lit (Value.nilFunc),.lit (Value.pointer none),.lit (Value.int IntKind.i32 0),.lit (Value.int IntKind.i32 0)]⟩:=⟨⟨⟨_,Tryz.underlying279,Ok,Ok⟩,Ok,⟨Value.agg #[Value.int IntKind.u64 0,Value.int IntKind.u64 0,Value.int IntKind.u32 0,Value.int IntKind.u8 0,Value.int IntKind.u8 0,Value.int IntKind.u8 0,Value.int IntKind.u8 0,Value.nilFunc,Value.pointer none,Value.int IntKind.i32 0,Value.int IntKind.i32 0],Ok,Ok,Ok,⟨_,rfl⟩⟩⟩⟩
theorem mixedP:Tryz.prog.follows .mixedOrders=true:=by kernel_rfl
instance:MixP Tryz.prog:=⟨mixedP⟩
theorem ins_get{C vs:List Value}{z i j q:Nat}(k:i*z<=C.length)(h:vs.length=z)(l:q<z) :
  (C.take (i*z)++vs++C.drop (i*z))[j*z+q]?=if j<i then C[j*z+q]? else if j=i then vs[q]? else C[(j-1)*z+q]?:=by
 have a:(C.take (i*z)).length=i*z:=by rw[Wi];omega
 by_cases b:j<i
 ·have e:j*z+z<=i*z:=by have:=WB z (show j+1<=i by omega);rwa [Vq]at this
  rw[if_pos b,WP,WM Oo,WL,if_pos Oo]
 ·rw[if_neg b];by_cases c:j=i
  ·subst c;rw[if_pos rfl,WM (by rw[We];omega),WO Oo,a,UC]
  ·rw[if_neg c];obtain ⟨d,rfl⟩:∃ d,j=i+1+d:=⟨j-i-1,Oo⟩;have f:(i+1+d)*z=i*z+z+d*z:=by rw[Vv,Vv,UX]
   have g:(i+1+d-1)*z=i*z+d*z:=by rw[show i+1+d-1=i+d by omega,Vv]
   rw[WO (by rw[We];omega),W2,We,a,h,f,g];congr 1;omega
def InsRaw(P:Program)(f z B:Nat):Prop:=∀ {w:World} {n i:Nat} {v vv:Value} {g0:Option (Nat×Nat)} {C vs:List Value} (hs:(∃ g cap cur T,g0=some (g,cap)/\v = .slice (some ⟨g,0,none⟩) n cap/\n<=cap/\cap<=maxLen/\w.heap[g]?=some (.cells cur T (0,0))/\cur.size=cap*z/\C=cur.toList.take (n*z))\/(g0=none/\v = .slice none 0 0/\n=0/\C=[])) (hv:∃ vb vc cv Tv,vv = .slice (some ⟨vb,0,none⟩) 1 vc/\w.heap[vb]?=some (.cells cv Tv (0,0))/\cv.size=vc*z/\1<=vc/\vs=cv.toList.take z/\∀ c,g0≠some (vb,c)) (h1c:∀ u∈C,u.oneCell'=true) (h1v:∀ u∈vs,u.oneCell'=true) (hi:i<=n) (hb:(n+1)*B<=140737488355328), Calls P f #[v,.int .i64 i,vv] w λe a=>∃ g' cap' cur' T',e = .returned (.slice (some ⟨g',0,none⟩) (n+1) cap')/\a.os=w.os/\a.tape=w.tape/\a.output=w.output/\w.heap.size<=a.heap.size /\ (∀ j,j<w.heap.size->(∀ c,g0≠some (j,c))->a.heap[j]?=w.heap[j]?)/\((∃ c',g0=some (g',c'))\/(w.heap.size<=g'/\g' < a.heap.size))/\n+1<=cap'/\cap'<=maxLen/\a.heap[g']?=some (.cells cur' T' (0,0))/\cur'.size=cap' * z/\cur'.toList.take ((n+1)*z)=C.take (i*z)++vs++C.drop (i*z)
theorem row_cells{m:Mem}{z g cap:Nat}{f:Bool}{xs:List (List DV)}(r:Row m ⟨z,true,f,xs⟩ g cap):∃ cur T C,m.w.heap[g]?=some (.cells cur T (0,0))/\cur.size=cap*z/\C=cur.toList.take (xs.length*z)/\C.length=xs.length*z /\
  (∀ (i:Nat) x (j:Nat) d,xs[i]?=some x->x[j]?=some d->∃ u,C[i*z+j]?=some u/\QgN m true u d)/\∀ u∈C,u.oneCell'=true:=by
 obtain ⟨cur,T,w,k,y⟩:=r.cells;have s:0<z:=r.pos;have t:xs.length*z<=cap*z:=WB z (show xs.length<=cap from r.len);have k:cur.size=cap*z:=k;have c:∀ (i:Nat) x,xs[i]?=some x->x.length=z:=r.sz;have e:∀ (i:Nat) x (j:Nat) d,xs[i]?=some x->x[j]?=some d->∃ u,(cur.toList.take (xs.length*z))[i*z+j]?=some u/\QgN m true u d:=λi x j d b h=>by
  obtain ⟨u,o,n⟩:=y i x j d b h;have B:j<z:=by
   have:=c i x b;rcases Ws j x.length with h' | h'
   ·omega
   ·rw[Wg h']at h;cases h
  have D:i<xs.length:=by
   rcases Ws i xs.length with h' | h'
   ·exact h'
   ·rw[Wg h']at b;cases b
  have:=WB z (show i+1<=xs.length by omega);rw[Vq]at this;exact ⟨u,by rw[WL,if_pos Oo];simpa using o,n⟩
 refine ⟨cur,T,_,w,k,rfl,by rw[Wi,show cur.toList.length=cap*z by simpa using k];omega,e,λu o=>?_⟩;obtain ⟨p,q⟩:=Vd.1 o;have l:p<xs.length*z:=by
  rcases Ws p (xs.length*z) with h' | h'
  ·exact h'
  ·rw[WL,if_neg Oo]at q;cases q
 have v:p/z<xs.length:=by refine (VP s).2 l
 have n:p%z<z:=UV _ s;obtain ⟨x,b⟩:∃ x,xs[p/z]?=some x:=⟨_,Wa v⟩;obtain ⟨d,h⟩:∃ d,x[p%z]?=some d:=⟨_,Wa (by rw[c _ _ b];exact n)⟩;obtain ⟨E,a,A,_⟩:=e _ x _ d b h;rw[show p/z*z+p%z=p by rw[VE];exact UJ p z,q]at a;injection a with a;rw[a];exact A
theorem ins_dcall {α:Type} {c:α->List DV} {P:Program} {f z B:Nat} (S:InsRaw P f z B) {U:Func} {cd:Code} (hf:P.funcs[f]?=some U) (H:(U.name == "runtime.NumGoroutine")=false) (hb:U.body=some cd) (hc:∀ a,(c a).length=z)
  (xs:List α) (x:α) (i:Int) (h:0<=i/\i<=xs.length/\((xs.length:Int)+1)*B<=140737488355328) :
  DCall P f [.own 0 0 xs.length,DI i,.own 1 0 1] [(0,⟨z,true,false,xs.map c⟩),(1,⟨z,true,false,[x].map c⟩)] (.own 2 0 (xs.insertIdx i.toNat x).length) [(2,⟨z,true,false,(xs.insertIdx i.toNat x).map c⟩)]:=by
 obtain ⟨K,h2,h3⟩:=h;refine ⟨λad w=>by
  have hn:¬ U.name= "runtime.NumGoroutine":=by simpa using H
  simp[callFunc,hf,hn,hb],λw M σ vs hI hS hσ Q=>?_⟩
 have H0:=hS 0 ⟨z,true,false,xs.map c⟩ rfl;have H1:=hS 1 ⟨z,true,false,[x].map c⟩ rfl;match vs,Q with
 | [a0,a1,a2],Q =>
 have r0:Rep ⟨w,M,σ⟩ a0 (.own 0 0 xs.length):=Q.2 0 a0 _ rfl rfl;have r1:Rep ⟨w,M,σ⟩ a1 (DI i):=Q.2 1 a1 _ rfl rfl;have r2:Rep ⟨w,M,σ⟩ a2 (.own 1 0 1):=Q.2 2 a2 _ rfl rfl;obtain ⟨L,k1,k2,k3,N⟩:=X5 r0 H0;obtain ⟨e1,q1,q2,q3,q4⟩:=X5 r2 H1;have hi:=r1.lit_inv;subst hi;obtain ⟨vb,vc,p1,p2,p3,p4⟩:∃ g b,e1.blk=some (g,b)/\a2 = .slice (some ⟨g,0,none⟩) 1 b/\1<=b/\Row ⟨w,M,σ⟩ ⟨z,true,false,[x].map c⟩ g b:=by
  rcases q4 with ⟨g,b,q4,m,q5,q6⟩ | ⟨_,_,_,h,_⟩
  ·rw[Un,Uw]at m;exact ⟨g,b,q4,m,Oo,q6⟩
  ·cases h
 obtain ⟨cv,Tv,V,v1,v2,v3,v4,v5,v6⟩:=row_cells p4;have W:0<z:=p4.pos;have X:V=cv.toList.take z:=by rw[v3];simp
 have Y:V.length=z:=by rw[v4];simp
 obtain ⟨C,hC,hCl,hCr,hC1⟩:∃ C,((∃ g b A T,L.blk=some (g,b)/\a0 = .slice (some ⟨g,0,none⟩) xs.length b/\xs.length<=b/\b<=maxLen/\w.heap[g]?=some (.cells A T (0,0))/\A.size=b*z/\C=A.toList.take (xs.length*z))\/(L.blk=none/\a0 = .slice none 0 0/\xs.length=0/\C=[]))/\C.length=xs.length*z /\
   (∀ (i:Nat) y (j:Nat) d,(xs.map c)[i]?=some y->y[j]?=some d->∃ u,C[i*z+j]?=some u/\QgN ⟨w,M,σ⟩ true u d)/\∀ u∈C,u.oneCell'=true:=by
  rcases N with ⟨g,b,N,m,k5,k6⟩ | ⟨N,m,_,h,he,_⟩
  ·rw[Un,Uw]at m
   obtain ⟨A,T,C,c1,c2,c3,c4,c5,c6⟩:=row_cells k6
   rw[Wb]at c3 c4
   exact ⟨C,.inl ⟨g,b,A,T,N,m,Oo,k6.max,c1,c2,c3⟩,c4,c5,c6⟩
  ·refine ⟨[],.inr ⟨N,m,h,rfl⟩,by simp[h],λi y j d l=>?_,λu F=>by cases F⟩
   rw[show xs.map c=[] from he]at l
   simp at l
 have Z:∀ c',L.blk≠some (vb,c'):=λc' ac=>by have:=hI.inj 0 1 L e1 vb k1 q1 (Ent.has_blk ac) (Ent.has_blk p1);cases this
 have G:i.toNat<=xs.length:=by omega
 have aa:i.toNat*z<=C.length:=by rw[hCl];exact WB z G
 have p:=S (w:=w) (n:=xs.length) (i:=i.toNat) (v:=a0) (vv:=a2) (g0:=L.blk) (C:=C) (vs:=V) hC ⟨vb,vc,cv,Tv,p2,v1,v2,p3,X,Z⟩ hC1 v6 G (by
  have:(((xs.length+1)*B:Nat):Int)<=140737488355328:=by push_cast;exact h3
  omega)
 rw[Vj K]at p;refine Calls.mono p λe w' ⟨I,k,D,T',he,w1,w2,w3,w4,w5,w6,w7,w8,w9,wa,wb⟩=>?_;have r:(xs.insertIdx i.toNat x).length=xs.length+1:=by rw[UN,if_pos G]
 have hT:=QdM hI k1 (by rw[k3];rfl) (hσ 2 (Wl _)) w' ⟨z,some (I,k),true,noI⟩ w1 w2 w3 w4 w5 (λg1 c' h=>by
  injection h with h
  injection h with K h2
  subst K
  exact w6)
 refine ⟨_,ZN (ZN σ 0 none) 2 (some ⟨z,some (I,k),true,noI⟩),he,hT.1,hT.2.ent,?_,λs ob o=>?_,λs hs=>?_⟩
 ·rw[r];exact own_mem (Qi _ _ _) rfl w7 w8
 ·obtain ⟨rfl,rfl⟩:s=2/\ob=⟨z,true,false,(xs.insertIdx i.toNat x).map c⟩:=by
   rw[Sto.get_cons]at o;split at o
   ·rename_i h;injection o with o;exact ⟨h,o.symm⟩
   ·cases o
  have J:Row ⟨w',M,ZN (ZN σ 0 none) 2 (some ⟨z,some (I,k),true,noI⟩)⟩ ⟨z,true,false,(xs.insertIdx i.toNat x).map c⟩ I k:=by
   refine ⟨⟨D,T',w9,wa,λj y q d l R=>?_⟩,by rw[Wb,r];exact w7,w8,W,λj y l=>by
    obtain ⟨a,_,rfl⟩:=Wk.1 (Wp l)
    exact hc a⟩
   have ae:y.length=z:=by obtain ⟨a,_,rfl⟩:=Wk.1 (Wp l);exact hc a
   have hq:q<z:=by
    rcases Ws q y.length with h' | h'
    ·omega
    ·rw[Wg h']at R;cases R
   have hj:j<xs.length+1:=by
    rcases Ws j (xs.length+1) with h' | h'
    ·exact h'
    ·rw[Wg (by rw[Wb,r];exact h')]at l;cases l
   have ab:=WB z (show j+1<=xs.length+1 from hj);rw[Vq]at ab;have E:=ins_get (C:=C) (vs:=V) (z:=z) (i:=i.toNat) (j:=j) (q:=q) aa Y hq;rw[<- wb,WL,if_pos Oo]at E;rw[Wh,List.getElem?_insertIdx]at l;have t:∀ u,D.toList[j*z+q]?=some u->QgN ⟨w,M,σ⟩ true u d->∃ u,D[j*z+q]?=some u/\QgN ⟨w',M,ZN (ZN σ 0 none) 2 (some ⟨z,some (I,k),true,noI⟩)⟩ true u d:=λu K h2=>⟨u,by simpa using K,h2.ext hT.2.toExt⟩;by_cases h4:j<i.toNat
   ·rw[if_pos h4]at E l;obtain ⟨u,F,O⟩:=hCr j y q d (by rw[Wh];exact l) R;exact t u (E.trans F) O
   ·rw[if_neg h4]at E l;by_cases h5:j=i.toNat
    ·rw[if_pos h5]at E l;rw[if_pos Oo]at l;obtain ⟨u,F,O⟩:=v5 0 y q d (by simpa using l) R;rw[Un,WS]at F;exact t u (E.trans F) O
    ·rw[if_neg h5]at E l;obtain ⟨u,F,O⟩:=hCr (j-1) y q d (by rw[Wh];exact l) R;exact t u (E.trans F) O
  exact Holds.of (e:=⟨z,some (I,k),true,noI⟩) (by dsimp only;exact Qi _ _ _) rfl rfl rfl J (J.deep rfl _)
 ·have hs:3<=s:=hs;rw[QZ _ _ Oo,QZ _ _ Oo];exact hσ s (by show 2<=s;omega)
def insF{α:Type}(B:Int)(xs:List α)(i:Int)(ys:List α):Option (List α):=match ys with
 | [x]=>if 0<=i/\i<=xs.length/\((xs.length:Int)+1)*B<=140737488355328 then some (xs.insertIdx i.toNat x) else none
 | _=>none
theorem insF_ok {α:Type} {c:α->List DV} {P:Program} {f z:Nat} {B:Nat} (d:InsRaw P f z B) {g:Func} {cd:Code} (l:P.funcs[f]?=some g) (b:(g.name == "runtime.NumGoroutine")=false) (k:g.body=some cd) (m:∀ a,(c a).length=z)
  {xs ys r:List α} {i:Int} (H:Sm (insF B xs i ys) r):DCall P f [.own 0 0 xs.length,DI i,.own 1 0 ys.length] [(0,⟨z,true,false,xs.map c⟩),(1,⟨z,true,false,ys.map c⟩)] (.own 2 0 r.length) [(2,⟨z,true,false,r.map c⟩)]:=by
 match ys,H with
 | [],H=>cases H.h
 | _ :: _ :: _,H=>cases H.h
 | [x],H =>obtain ⟨h,j⟩:=cq H;have e:=se j;subst e;exact ins_dcall d l b k m xs x i h
def Qaa(xs:List Int)(i:Int)(ys:List Int):Option (List Int):=insF 8 xs i ys
theorem Qda{xs ys r:List Int}{i:Int}(H:Sm (Qaa xs i ys) r):DCall Tryz.prog 60 [.own 0 0 xs.length,DI i,.own 1 0 ys.length] [(0,⟨1,true,false,xs.map iC⟩),(1,⟨1,true,false,ys.map iC⟩)] (.own 2 0 r.length) [(2,⟨1,true,false,r.map iC⟩)] :=
 insF_ok (B:=8) insI_raw Tryz.func60 rfl rfl (λ_=>rfl) H
theorem Qc9{α:Type}{c:α->List DV}(b:∀ a,(c a).length=3){xs ys r:List α}{i:Int}(H:Sm (insF 40 xs i ys) r):DCall Tryz.prog 59 [.own 0 0 xs.length,DI i,.own 1 0 ys.length] [(0,⟨3,true,false,xs.map c⟩),(1,⟨3,true,false,ys.map c⟩)] (.own 2 0 r.length) [(2,⟨3,true,false,r.map c⟩)] :=
 insF_ok (B:=40) insS_raw Tryz.func59 rfl rfl b H
def srtRen:Go.Shelf.Ren:=⟨λ| 189=>24 | 125=>51 | 257=>50 | 128=>97 | 129=>98 | 294=>89 | 295=>90 | 296=>91 | 297=>92 | 298=>93 | 299=>94 | 216=>87 | 300=>95 | 301=>96 | 328=>128 | 329=>129 | 330=>130 | 331=>131 | 332=>132 | 215=>127 | 343=>154 | n=>n,λ| 28=>22 | 3=>3 | 46=>64 | 0=>0 | 51=>166 | 53=>61 | 4=>4 | 183=>160 | 182=>159 | 131=>119 | 5=>5 | 9=>9 | 218=>196 | 222=>200 | 228=>219 | 229=>90 | n=>n,λn=>n⟩
theorem srtLay:Lays.n189 Tryz.prog srtRen:={
 mixed:=by kernel_rfl
 f125:=Tryz.func51.trans (congrArg some Ok)
 f128:=Tryz.func97.trans (congrArg some Ok)
 f129:=Tryz.func98.trans (congrArg some Ok)
 f189:=Tryz.func24.trans (congrArg some Ok)
 f215:=Tryz.func127.trans (congrArg some Ok)
 f216:=Tryz.func87.trans (congrArg some Ok)
 f257:=Tryz.func50.trans (congrArg some Ok)
 f294:=Tryz.func89.trans (congrArg some Ok)
 f295:=Tryz.func90.trans (congrArg some Ok)
 f296:=Tryz.func91.trans (congrArg some Ok)
 f297:=Tryz.func92.trans (congrArg some Ok)
 f298:=Tryz.func93.trans (congrArg some Ok)
 f299:=Tryz.func94.trans (congrArg some Ok)
 f300:=Tryz.func95.trans (congrArg some Ok)
 f301:=Tryz.func96.trans (congrArg some Ok)
 f328:=Tryz.func128.trans (congrArg some Ok)
 f329:=Tryz.func129.trans (congrArg some Ok)
 f330:=Tryz.func130.trans (congrArg some Ok)
 f331:=Tryz.func131.trans (congrArg some Ok)
 f332:=Tryz.func132.trans (congrArg some Ok)
 f343:=Tryz.func154.trans (congrArg some Ok)
 t0:=Tryz.underlying0
 a0:=Tryz.isAgg0
 z0:=Tryz.sizeOf0
 v0:=Tryz.zeroValue0
 t3:=Tryz.underlying3
 a3:=Tryz.isAgg3
 z3:=Tryz.sizeOf3
 v3:=Tryz.zeroValue3
 t4:=Tryz.underlying4
 a4:=Tryz.isAgg4
 z4:=Tryz.sizeOf4
 v4:=Tryz.zeroValue4
 t5:=Tryz.underlying5
 a5:=Tryz.isAgg5
 z5:=Tryz.sizeOf5
 v5:=Tryz.zeroValue5
 t9:=Tryz.underlying9
 a9:=Tryz.isAgg9
 z9:=Tryz.sizeOf9
 v9:=Tryz.zeroValue9
 t28:=Tryz.underlying22
 a28:=Tryz.isAgg22
 z28:=Tryz.sizeOf22
 v28:=Tryz.zeroValue22
 t46:=Tryz.underlying64
 a46:=Tryz.isAgg64
 z46:=Tryz.sizeOf64
 v46:=Tryz.zeroValue64
 t51:=Tryz.underlying166
 a51:=Tryz.isAgg166
 z51:=Tryz.sizeOf166
 v51:=Tryz.zeroValue166
 t53:=Tryz.underlying61
 a53:=Tryz.isAgg61
 z53:=Tryz.sizeOf61
 v53:=Tryz.zeroValue61
 t131:=Tryz.underlying119
 a131:=Tryz.isAgg119
 z131:=Tryz.sizeOf119
 v131:=Tryz.zeroValue119
 t182:=Tryz.underlying159
 a182:=Tryz.isAgg159
 z182:=Tryz.sizeOf159
 v182:=Tryz.zeroValue159
 t183:=Tryz.underlying160
 a183:=Tryz.isAgg160
 z183:=Tryz.sizeOf160
 v183:=Tryz.zeroValue160
 t218:=Tryz.underlying196
 a218:=Tryz.isAgg196
 z218:=Tryz.sizeOf196
 v218:=Tryz.zeroValue196
 t222:=Tryz.underlying200
 a222:=Tryz.isAgg200
 z222:=Tryz.sizeOf200
 v222:=Tryz.zeroValue200
 t228:=Tryz.underlying219
 a228:=Tryz.isAgg219
 z228:=Tryz.sizeOf219
 v228:=Tryz.zeroValue219
 t229:=Tryz.underlying90
 a229:=Tryz.isAgg90
 z229:=Tryz.sizeOf90
 v229:=Tryz.zeroValue90 }
theorem entR(σ:Nat->Option (Option Ent)):QcU σ σ:=λs x h=>⟨x,h,λa b=>⟨a,b,rfl,rfl⟩⟩
theorem int_row{m:Mem}{g cap:Nat}{f:Bool}{l:List Int}(r:Row m ⟨1,true,f,l.map iC⟩ g cap):∃ cur T,m.w.heap[g]?=some (.cells cur T (0,0))/\cur.size=cap/\l.length<=cap/\∀ j (h:j<l.length),cur[j]?=some (.int .i64 l[j]):=by
 obtain ⟨cur,T,b,c,d⟩:=r.cells;refine ⟨cur,T,b,by simpa using c,by simpa using r.len,λj i=>?_⟩;obtain ⟨u,e,_,a⟩:=d j (iC l[j]) 0 (DI l[j]) (by rw[Wh,Wa i];rfl) rfl;have a:PRep m.w m.no u (.lit (.int .i64 l[j])):=a;cases a
 simpa using e
theorem int_row_of{f:World}{M:Nat->Prop}{σ:Nat->Option (Option Ent)}{g cap T:Nat}{ys:List Int}{cur:Array Value}(h:f.heap[g]?=some (.cells cur T (0,0)))(n:cur.size=cap)(k:ys.length<=cap)(l:cap<=maxLen)(m:∀ j (h:j<ys.length),cur[j]?=some (.int .i64 ys[j])) :
  Row ⟨f,M,σ⟩ ⟨1,true,false,ys.map iC⟩ g cap:=by
 refine ⟨⟨cur,T,h,by simpa using n,λi x j d b c=>?_⟩,by simpa using k,l,Nat.one_pos,λi x b=>?_⟩
 ·have b:(ys.map iC)[i]?=some x:=b;have e:i<ys.length:=by
   rcases Ws i ys.length with h' | h'
   ·exact h'
   ·rw[Wg (by simpa using h')]at b;cases b
  rw[Wh,Wa e]at b;injection b with b;subst b;cases j with
  | succ j=>cases c
  | zero =>injection c with c;subst c;exact ⟨_,by simpa using m i e,rfl,.lit _ rfl⟩
 ·obtain ⟨a,_,rfl⟩:=Wk.1 (Wp b);rfl
def QeR(l:List Int):List Int:=l.mergeSort λx y=>decide (x<=y)
theorem srtL_len(l:List Int):(QeR l).length=l.length:=by unfold QeR;simp
theorem enter_ok {f:Nat} {b:Func} {cd:Code} (d:Tryz.prog.funcs[f]?=some b) (a:(b.name == "runtime.NumGoroutine")=false) (e:b.body=some cd):∀ args w,(callFunc f args).run Tryz.prog w = .ok (.enter f args) w:=λargs w=>by
 have c:¬ b.name= "runtime.NumGoroutine":=by simpa using a
 simp[callFunc,d,c,e]
theorem own_intv{w:World}{M:Nat->Prop}{σ:Nat->Option (Option Ent)}{c:Value}{l:List Int}(r0:Rep ⟨w,M,σ⟩ c (.own 0 0 l.length))(p:Holds ⟨w,M,σ⟩ 0 ⟨1,true,false,l.map iC⟩) :
  ∃ en,σ 0=some (some en)/\en.esz=1/\en.mu=true/\((∃ g cap,en.blk=some (g,cap)/\c = .slice (some ⟨g,0,none⟩) l.length cap/\l.length<=cap/\cap<=maxLen/\∃ cur T,w.heap[g]?=some (.cells cur T (0,0))/\cur.size=cap/\∀ j (h:j<l.length),cur[j]?=some (.int .i64 l[j]))\/(l=[]/\en.blk=none/\c = .slice none 0 0)):=by
 obtain ⟨en,e,f,i,b⟩:=X5 r0 p;refine ⟨en,e,f,by rw[i];rfl,?_⟩;rcases b with ⟨g,cap,b,a,q,d⟩ | ⟨b,a,_,h,r,_⟩
 ·obtain ⟨cur,T,k,m,n,o⟩:=int_row d;rw[Un,Uw]at a;exact .inl ⟨g,cap,b,a,n,d.max,cur,T,k,m,o⟩
 ·exact .inr ⟨Vp.1 h,b,a⟩
set_option maxHeartbeats 1000000 in
theorem sort_dcall{l:List Int}(hl:l.length<=1099511627776):DCall Tryz.prog 24 [.own 0 0 l.length] [(0,⟨1,true,false,l.map iC⟩)] (.tup []) [(0,⟨1,true,false,(QeR l).map iC⟩)]:=by
 refine ⟨enter_ok Tryz.func24 rfl rfl,λw M σ vs S U V I=>?_⟩;have W:=U 0 ⟨1,true,false,l.map iC⟩ rfl;match vs,I with
 | [a0],I =>
 have r0:Rep ⟨w,M,σ⟩ a0 (.own 0 0 l.length):=I.2 0 a0 _ rfl rfl;obtain ⟨P,X,Y,Q,A⟩:=own_intv r0 W;have b:∀ (J:Option Addr) c,l=[]->a0 = .slice J 0 c->Calls Tryz.prog 24 #[a0] w λe D=>∃ v σ',e = .returned v/\Inv ⟨w,Xof σ,Yof σ⟩ ⟨D,M,σ'⟩/\QcU σ σ'/\Rep ⟨D,M,σ'⟩ v (.tup [])/\(∀ s p,Sto.get [(0,⟨1,true,false,(QeR l).map iC⟩)] s=some p->Holds ⟨D,M,σ'⟩ s p)/\∀ s,idb [(0,(⟨1,true,false,(QeR l).map iC⟩:Ob))] 1<=s->σ' s=none:=λJ c o H=>by subst o H;refine (Any.slices_Sort_int_none srtLay J c w).mono ?_;rintro e D ⟨rfl,rfl⟩;exact ⟨_,σ,rfl,S,entR σ,.tup rfl (λi v d K=>by simp at K),λs p h=>U s p (by rw[show QeR []=[] by simp[QeR]]at h;exact h),λs z=>V s z⟩
 rcases A with ⟨g,m,A,rfl,k5,k6,G,T,C,c2,c3⟩ | ⟨o,A,H⟩
 ·by_cases o:l=[]
  ·exact b _ m o (by rw[o];rfl)
  ·have L:=Yt.2 o;have N:Go.Sort.Holds (Value.int .i64) w g 0 l.toArray:=Lib.holds_of_ints (n:=l.length) (Wl _) (λj q=>by rw[WS,J9 C,c3 j q];simp[List.getD,q]) (λj q=>XA C) |> λk=>by rwa [WR]at k
   refine (Any.slices_Sort_int srtLay g 0 m l w N ((Vz.1 C).1) Oo).mono ?_;rintro e D ⟨rfl,n,os,rfl⟩;rw[Lib.putRow_eq_setCells _ w g 0 _ _ n N Os,show (l.mergeSort λx y=>decide (x<=y))=QeR l from rfl];have r:=Qn g ((QeR l).map (Value.int .i64)) 0 (w.drewN n);obtain ⟨B,Z,R⟩:=Q9 ((QeR l).map (Value.int .i64)) 0 (w.drewN n) G C (by rw[Wb,srtL_len];omega);have F:g<w.heap.size:=(Vz.1 C).1;have t:w.heap.size<=((w.drewN n).setCells g 0 ((QeR l).map (Value.int .i64))).heap.size:=r.size;have f:∀ k,k<w.heap.size->(Sort.grow ((w.drewN n).setCells g 0 ((QeR l).map (Value.int .i64))) os).heap[k]?=((w.drewN n).setCells g 0 ((QeR l).map (Value.int .i64))).heap[k]?:=λk E=>by show (_++os)[k]?=_;rw[VS (Vm E t)]
   have O:=turn_at S X (Sort.grow ((w.drewN n).setCells g 0 ((QeR l).map (Value.int .i64))) os) true (λ_=>Q) r.os r.tape r.output (by
    show w.heap.size<=(_++os).size
    rw[VQ]
    exact Ug t (Nat.le_add_right _ _)) (λk E h=>by
    rw[f k E]
    exact r.block k E λe=>by
     injection e with e
     subst e
     have:=h _ A
     rw[Q]at this
     cases this)
   refine ⟨_,_,rfl,O.1,O.2.ent,.tup rfl (λi v d K=>by simp at K),λs p a=>?_,λs z=>?_⟩
   ·obtain ⟨rfl,rfl⟩:s=0/\p=⟨1,true,false,(QeR l).map iC⟩:=by
     rw[Sto.get_cons]at a;split at a
     ·rename_i h;injection a with a;exact ⟨h,a.symm⟩
     ·cases a
    have u:Row ⟨Sort.grow ((w.drewN n).setCells g 0 ((QeR l).map (Value.int .i64))) os,M,ZN σ 0 (some { P with mu:=true })⟩ ⟨1,true,false,(QeR l).map iC⟩ g m:=by
     refine int_row_of (T:=T) ((f g F).trans Z) ?_ (by rw[srtL_len];exact k5) k6 λj q=>?_
     ·rw[<- WG,R,We,We,Wi,Ww,Wb,srtL_len,WG];omega
     ·have:B.toList[j]?=some (.int .i64 (QeR l)[j]):=by rw[R,Y4,VV,WM (by rw[Wb];exact q),Wh,Wa q];rfl
      simpa using this
    exact Holds.of (e:={ P with mu:=true }) (by dsimp only;exact Qi _ _ _) Y rfl A u (u.deep rfl _)
   ·have z:1<=s:=z;show ZN σ 0 _ s=none;rw[QZ _ _ Oo];exact V s z
 ·exact b none 0 o H
def JJ(xs:List Int):Option (List Int):=if xs.length<=1099511627776 then some (QeR xs) else none
theorem Qd6{xs r:List Int}(H:Sm (JJ xs) r):DCall Tryz.prog 24 [.own 0 0 xs.length] [(0,⟨1,true,false,xs.map iC⟩)] (.tup []) [(0,⟨1,true,false,r.map iC⟩)]:=by obtain ⟨a,b⟩:=cq H;have e:=se b;subst e;exact sort_dcall a
end Go.Proofs.YtkfnkecgcdhncaaGreat
