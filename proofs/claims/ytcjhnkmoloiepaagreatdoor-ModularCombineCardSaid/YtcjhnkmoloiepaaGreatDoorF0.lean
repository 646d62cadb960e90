/- A helper of the claim: general lemmas and walks of functions, printed by a program of this session. Conditions: none. -/
import Derived.Test.YtcjhnkmoloiepaaGreatDoorQ1
import Derived.Test.YtcjhnkmoloiepaaGreatDoorProg
import Derived.Test.YtcjhnkmoloiepaaGreatDoorQ3
namespace Go.Proofs.Vc
open Go Go.RowKit
theorem zL {α : Type} : (∀ l : List α, [] ++ l = l) ∧ (∀ (a : α) (l m : List α), (a :: l) ++ m = a :: (l ++ m)) ∧ (∀ (a b : α) (l : List α), (a :: l).set 0 b = b :: l) ∧ (∀ (a b : α) (l : List α) (i : Nat), (a :: l).set (i + 1) b = a :: l.set i b) ∧
    (∀ l : List α, l.toArray.toList = l) ∧ (∀ l : List α, l.take 0 = []) ∧ (∀ (a : α) (l : List α) (i : Nat), (a :: l).take (i + 1) = a :: l.take i) ∧ (∀ i : Nat, ([] : List α).take i = []) ∧ (∀ l : List α, l.drop 0 = l) ∧ (∀ (a : α) (l : List α) (i : Nat), (a :: l).drop (i + 1) = l.drop i) ∧ (∀ i : Nat, ([] : List α).drop i = []) ∧
    (∀ (a : α) (l : List α), (a :: l).length = l.length + 1) ∧ (([] : List α).length = 0) ∧ (∀ l : List α, l ++ [] = l) ∧ (∀ n : Nat, 0 + n = n) ∧ (∀ n : Nat, n + 0 = n) :=
  ⟨List.nil_append, fun _ _ _ => rfl, fun _ _ _ => rfl, fun _ _ _ _ => rfl, fun _ => rfl, fun _ => rfl, fun _ _ _ => rfl, fun _ => List.take_nil, fun _ => rfl, fun _ _ _ => rfl, fun _ => List.drop_nil, fun _ _ => rfl, rfl, List.append_nil, Nat.zero_add, Nat.add_zero⟩
theorem zR {α : Type} (l : List α) : List.Sublist l l := List.Sublist.refl l
theorem zC {α : Type} {a : α} {l m : List α} (h : List.Sublist l m) : List.Sublist (a :: l) (a :: m) := List.Sublist.cons_cons a h
theorem zD {α : Type} {a : α} {l m : List α} (h : List.Sublist l m) : List.Sublist l (a :: m) := List.Sublist.cons a h
section
variable {P : Program} {ops : Array Oper} {Q Q' : Exit → Act → World → Prop} {n : Nat} {kn : Kn} {w : World} {S : World → Prop}
theorem zn4 {id : Nat} {l : List Oper} {d : Code} (h : wpK P l.toArray (Exit.then (d.wp P Q) Q) n l kn w) : wpK P ops (Exit.then ((Code.seq (.region id l.toArray false) d).wp P Q) Q') n [] kn w := wpK_nil (cp_then (cp_seq (cp_region h)))
theorem zn3 {id : Nat} {l : List Oper} (h : wpK P l.toArray Q n l kn w) : wpK P ops (Exit.then ((Code.region id l.toArray false).wp P Q) Q') n [] kn w := wpK_nil (cp_then (cp_region h))
theorem znq {c d : Code} (h : cpK P c (Exit.then (d.wp P Q) Q) n kn w) : wpK P ops (Exit.then ((Code.seq c d).wp P Q) Q') n [] kn w := wpK_nil (cp_then (cp_seq h))
theorem znt {d : Code} (h : cpK P d Q n kn w) : wpK P ops (Exit.then (d.wp P Q) Q') n [] kn w := wpK_nil (cp_then h)
theorem zsr {id : Nat} {l : List Oper} {d : Code} (h : wpK P l.toArray (Exit.then (d.wp P Q) Q) n l kn w) : cpK P (.seq (.region id l.toArray false) d) Q n kn w := cp_seq (cp_region h)
theorem zk4 {id : Nat} {l : List Oper} {d : Code} (h : wpK P l.toArray (Exit.then (d.wp P Q) Q) n l kn w) : cpK P .skip (Exit.then ((Code.seq (.region id l.toArray false) d).wp P Q) Q') n kn w := cp_skip (cp_then (cp_seq (cp_region h)))
theorem zn5 {K : Act → World → Prop} (h : atK (Q .ret) n kn w) : wpK P ops (Exit.then (Code.ret.wp P (Exit.then K Q)) Q') n [] kn w := wpK_nil (cp_then (cp_ret (at_then_ret h)))
theorem zM {rest : List Oper} {v : Value} {d : Nat} {x : Operand} {t : TypeId} {pos : String} {af : Array Edge} (hd : Nat.ble (d + 1) n = true) (hS : S w) (hx : kev kn x = some v) (h : wpK P ops Q n rest ((d, v) :: kn) w) : wpK P ops Q n (⟨some d, .move x, t, pos, af, none⟩ :: rest) kn w :=
  stepK_d rfl rfl hd hS (does_move rfl hx) h
theorem zA {rest : List Oper} {v : Value} {d : Nat} {x : Operand} {t : TypeId} {pos : String} {af : Array Edge} (hd : Nat.ble (d + 1) n = true) (hS : S w) (hx : kev kn x = some v) (h : wpK P ops Q n rest ((d, v) :: kn) w) : wpK P ops Q n (⟨some d, .assign x, t, pos, af, none⟩ :: rest) kn w :=
  stepK_d rfl rfl hd hS (does_assign rfl hx) h
theorem zE {rest : List Oper} {v : Value} {d i : Nat} {x : Operand} {t : TypeId} {pos : String} {af : Array Edge} {l : List Value} (hd : Nat.ble (d + 1) n = true) (hS : S w) (hx : kev kn x = some (.tuple l.toArray)) (hv : getL l i = some v) (h : wpK P ops Q n rest ((d, v) :: kn) w) : wpK P ops Q n (⟨some d, .extract x i, t, pos, af, none⟩ :: rest) kn w :=
  stepK_d rfl rfl hd hS (does_extract rfl hx hv) h
end
end Go.Proofs.Vc

namespace Go.Proofs.Vc
open Go Go.RowKit
theorem zf0 : Tryz.prog.funcs[93]? = some Tryz.f93 := by kernel_rfl
theorem zf1 : Program.underlying Tryz.prog 108 = some (.slice 63) := by kernel_rfl
theorem zf2 : elemInfo Tryz.prog 63 = some ((.int .u64 0), 1, 8) := by kernel_rfl
theorem zf3 : Tryz.prog.funcs[120]? = some Tryz.f120 := by kernel_rfl
theorem zf4 : sizeB Tryz.prog 63 = some 1 := by kernel_rfl
theorem zf5 : Tryz.prog.funcs[89]? = some Tryz.f89 := by kernel_rfl
theorem zf6 : Tryz.prog.funcs[119]? = some Tryz.f119 := by kernel_rfl
theorem zf7 : Tryz.prog.funcs[121]? = some Tryz.f121 := by kernel_rfl
theorem zf8 : Tryz.prog.funcs[105]? = some Tryz.f105 := by kernel_rfl
theorem zf9 : Tryz.prog.funcs[106]? = some Tryz.f106 := by kernel_rfl
theorem zf10 : Tryz.prog.funcs[118]? = some Tryz.f118 := by kernel_rfl
theorem zf11 : Tryz.prog.funcs[104]? = some Tryz.f104 := by kernel_rfl
theorem zf12 : Tryz.prog.funcs[144]? = some Tryz.f144 := by kernel_rfl
theorem zf13 : Tryz.prog.funcs[127]? = some Tryz.f127 := by kernel_rfl
theorem zf14 : Tryz.prog.funcs[138]? = some Tryz.f138 := by kernel_rfl
theorem zf15 : Tryz.prog.funcs[123]? = some Tryz.f123 := by kernel_rfl
theorem zf16 : Tryz.prog.funcs[128]? = some Tryz.f128 := by kernel_rfl
theorem zf17 : Tryz.prog.funcs[132]? = some Tryz.f132 := by kernel_rfl
theorem zf18 : Tryz.prog.funcs[129]? = some Tryz.f129 := by kernel_rfl
theorem zf19 : Tryz.prog.funcs[130]? = some Tryz.f130 := by kernel_rfl
theorem zf20 : Tryz.prog.funcs[131]? = some Tryz.f131 := by kernel_rfl
theorem zf21 : Tryz.prog.funcs[114]? = some Tryz.f114 := by kernel_rfl
theorem zf22 : Tryz.prog.funcs[90]? = some Tryz.f90 := by kernel_rfl
theorem zf23 : Tryz.prog.funcs[88]? = some Tryz.f88 := by kernel_rfl
theorem zf24 : Tryz.prog.funcs[102]? = some Tryz.f102 := by kernel_rfl
theorem zf25 : fieldOf Tryz.prog 69 1 = some (1, 0 + 1, false) := by kernel_rfl
theorem zf26 : fieldOf Tryz.prog 69 0 = some (0, 0 + 1, false) := by kernel_rfl
theorem zf27 : Tryz.prog.funcs[94]? = some Tryz.f94 := by kernel_rfl
theorem zf28 : Tryz.prog.funcs[91]? = some Tryz.f91 := by kernel_rfl
theorem zf29 : zeroOf Tryz.prog 69 = some (.agg #[.int .i64 0, .int .i64 0, .pointer none]) := by kernel_rfl
theorem zf30 : layOf Tryz.prog 69 = some ([(0, 1), (1, 1), (2, 1)], [.int .i64 0, .int .i64 0, .pointer none]) := by kernel_rfl
theorem zf31 : sizeB Tryz.prog 69 = some 3 := by kernel_rfl
theorem zf32 : sizeB Tryz.prog 2 = some 1 := by kernel_rfl
theorem zf33 : layOf Tryz.prog 132 = some ([(0, 1), (1, 1), (2, 1)], [.bool false, .slice none 0 0, .slice none 0 0]) := by kernel_rfl
theorem zf34 : Tryz.prog.funcs[92]? = some Tryz.f92 := by kernel_rfl
theorem zf35 : Tryz.prog.funcs[95]? = some Tryz.f95 := by kernel_rfl
theorem zf36 : fieldOf Tryz.prog 69 2 = some (2, 0 + 1, false) := by kernel_rfl
theorem zf37 : Program.underlying Tryz.prog 67 = some (.pointer 132) := by kernel_rfl
theorem zf38 : fieldOf Tryz.prog 132 0 = some (0, 0 + 1, false) := by kernel_rfl
theorem zf39 : fieldOf Tryz.prog 132 1 = some (1, 0 + 1, false) := by kernel_rfl
theorem zf40 : fieldOf Tryz.prog 132 2 = some (2, 0 + 1, false) := by kernel_rfl
theorem zf41 : Tryz.prog.funcs[103]? = some Tryz.f103 := by kernel_rfl
theorem zf42 : Tryz.prog.funcs[96]? = some Tryz.f96 := by kernel_rfl
theorem zf43 : Tryz.prog.funcs[62]? = some Tryz.f62 := by kernel_rfl
theorem zf44 : Tryz.prog.funcs[115]? = some Tryz.f115 := by kernel_rfl
theorem zf45 : Tryz.prog.funcs[109]? = some Tryz.f109 := by kernel_rfl
theorem zf46 : Tryz.prog.funcs[59]? = some Tryz.f59 := by kernel_rfl
theorem zf47 : Tryz.prog.funcs[61]? = some Tryz.f61 := by kernel_rfl
theorem zf48 : Tryz.prog.funcs[63]? = some Tryz.f63 := by kernel_rfl
theorem zf49 : Tryz.prog.funcs[70]? = some Tryz.f70 := by kernel_rfl
theorem zf50 : Tryz.prog.funcs[67]? = some Tryz.f67 := by kernel_rfl
theorem zf51 : Tryz.prog.funcs[69]? = some Tryz.f69 := by kernel_rfl
theorem zf52 : Tryz.prog.funcs[47]? = some Tryz.f47 := by kernel_rfl
theorem zf53 : Tryz.prog.funcs[87]? = some Tryz.f87 := by kernel_rfl
theorem zf54 : Tryz.prog.funcs[46]? = some Tryz.f46 := by kernel_rfl
theorem zf55 : Tryz.prog.funcs[139]? = some Tryz.f139 := by kernel_rfl
theorem zf56 : Tryz.prog.funcs[124]? = some Tryz.f124 := by kernel_rfl
theorem zf57 : Tryz.prog.funcs[143]? = some Tryz.f143 := by kernel_rfl
theorem zf58 : fieldOf Tryz.prog 148 0 = some (0, 0 + 1, false) := by kernel_rfl
theorem zf59 : Program.underlying Tryz.prog 146 = some (.pointer 148) := by kernel_rfl
theorem zf60 : Program.underlying Tryz.prog 181 = some .unsafePointer := by kernel_rfl
theorem zf61 : Tryz.prog.funcs[152]? = some Tryz.f152 := by kernel_rfl
theorem zf62 : Tryz.prog.funcs[125]? = some Tryz.f125 := by kernel_rfl
theorem zf63 : fieldOf Tryz.prog 148 1 = some (1, 0 + 1, false) := by kernel_rfl
theorem zf64 : Tryz.prog.funcs[108]? = some Tryz.f108 := by kernel_rfl
theorem zf65 : Program.underlying Tryz.prog 106 = some (.slice 63) := by kernel_rfl
theorem zf66 : zeroOf Tryz.prog 148 = some (.agg #[.pointer none, .slice none 0 0]) := by kernel_rfl
theorem zf67 : zeroOf Tryz.prog 149 = some (.agg #[.int .u8 0, .int .u8 0, .int .u8 0, .int .u8 0, .int .u8 0, .int .u8 0, .int .u8 0, .int .u8 0, .int .u8 0, .int .u8 0, .int .u8 0, .int .u8 0, .int .u8 0, .int .u8 0, .int .u8 0, .int .u8 0, .int .u8 0, .int .u8 0, .int .u8 0]) := by kernel_rfl
theorem zf68 : Program.underlying Tryz.prog 149 = some (.array 19 5) := by kernel_rfl
theorem zf69 : sizeB Tryz.prog 5 = some 1 := by kernel_rfl
theorem zf70 : Tryz.prog.funcs[126]? = some Tryz.f126 := by kernel_rfl
theorem zf71 : Tryz.prog.funcs[122]? = some Tryz.f122 := by kernel_rfl
theorem zf72 : Tryz.prog.funcs[107]? = some Tryz.f107 := by kernel_rfl
theorem zf73 : Tryz.prog.funcs[60]? = some Tryz.f60 := by kernel_rfl
theorem zf74 : Tryz.prog.funcs[58]? = some Tryz.f58 := by kernel_rfl
theorem zf75 : Tryz.prog.funcs[18]? = some Tryz.f18 := by kernel_rfl
theorem zf76 : Tryz.prog.funcs[20]? = some Tryz.f20 := by kernel_rfl
theorem zf77 : Tryz.prog.funcs[22]? = some Tryz.f22 := by kernel_rfl
theorem zf78 : Tryz.prog.funcs[29]? = some Tryz.f29 := by kernel_rfl
theorem zf79 : Tryz.prog.funcs[101]? = some Tryz.f101 := by kernel_rfl
theorem zf80 : Program.underlying Tryz.prog 29 = some (.slice 121) := by kernel_rfl
theorem zf81 : sizeB Tryz.prog 121 = some 1 := by kernel_rfl
theorem zf82 : Tryz.prog.funcs[111]? = some Tryz.f111 := by kernel_rfl
theorem zf83 : Tryz.prog.funcs[110]? = some Tryz.f110 := by kernel_rfl
theorem zf84 : elemInfo Tryz.prog 121 = some ((.int .u32 0), 1, 4) := by kernel_rfl
theorem zf85 : Tryz.prog.funcs[112]? = some Tryz.f112 := by kernel_rfl
theorem zf86 : Tryz.prog.funcs[113]? = some Tryz.f113 := by kernel_rfl
theorem zf87 : Tryz.prog.funcs[100]? = some Tryz.f100 := by kernel_rfl
theorem zf88 : Tryz.prog.funcs[133]? = some Tryz.f133 := by kernel_rfl
theorem zf89 : Tryz.prog.funcs[116]? = some Tryz.f116 := by kernel_rfl
theorem zf90 : Tryz.prog.funcs[98]? = some Tryz.f98 := by kernel_rfl
theorem zf91 : zeroOf Tryz.prog 31 = some (.agg #[.bool false, .slice none 0 0]) := by kernel_rfl
theorem zf92 : layOf Tryz.prog 31 = some ([(0, 1), (1, 1)], [.bool false, .slice none 0 0]) := by kernel_rfl
theorem zf93 : sizeB Tryz.prog 31 = some 2 := by kernel_rfl
theorem zf94 : Tryz.prog.funcs[57]? = some Tryz.f57 := by kernel_rfl
theorem zf95 : Tryz.prog.funcs[75]? = some Tryz.f75 := by kernel_rfl
theorem zf96 : fieldOf Tryz.prog 31 0 = some (0, 0 + 1, false) := by kernel_rfl
theorem zf97 : fieldOf Tryz.prog 31 1 = some (1, 0 + 1, false) := by kernel_rfl
theorem zf98 : Tryz.prog.funcs[78]? = some Tryz.f78 := by kernel_rfl
theorem zf99 : Tryz.prog.funcs[64]? = some Tryz.f64 := by kernel_rfl
theorem zf100 : Tryz.prog.funcs[77]? = some Tryz.f77 := by kernel_rfl
theorem zf101 : Tryz.prog.funcs[65]? = some Tryz.f65 := by kernel_rfl
theorem zf102 : Tryz.prog.funcs[73]? = some Tryz.f73 := by kernel_rfl
theorem zf103 : Tryz.prog.funcs[74]? = some Tryz.f74 := by kernel_rfl
theorem zf104 : Tryz.prog.funcs[80]? = some Tryz.f80 := by kernel_rfl
theorem zf105 : Tryz.prog.funcs[79]? = some Tryz.f79 := by kernel_rfl
theorem zf106 : Tryz.prog.funcs[99]? = some Tryz.f99 := by kernel_rfl
theorem zf107 : fieldOf Tryz.prog 33 1 = some (2, 1 + 1, true) := by kernel_rfl
theorem zf108 : Tryz.prog.funcs[54]? = some Tryz.f54 := by kernel_rfl
theorem zf109 : sizeB Tryz.prog 33 = some 4 := by kernel_rfl
theorem zf110 : Tryz.prog.funcs[17]? = some Tryz.f17 := by kernel_rfl
theorem zf111 : zeroOf Tryz.prog 33 = some (.agg #[.bool false, .slice none 0 0, .bool false, .slice none 0 0]) := by kernel_rfl
theorem zf112 : layOf Tryz.prog 33 = some ([(0, 2), (2, 2)], [.bool false, .slice none 0 0, .bool false, .slice none 0 0]) := by kernel_rfl
theorem zf113 : Tryz.prog.funcs[81]? = some Tryz.f81 := by kernel_rfl
theorem zf114 : Tryz.prog.funcs[56]? = some Tryz.f56 := by kernel_rfl
theorem zf115 : Program.underlying Tryz.prog 124 = some (.slice 5) := by kernel_rfl
theorem zf116 : elemInfo Tryz.prog 5 = some ((.int .u8 0), 1, 1) := by kernel_rfl
theorem zf117 : Tryz.prog.funcs[97]? = some Tryz.f97 := by kernel_rfl
theorem zf118 : Tryz.prog.funcs[16]? = some Tryz.f16 := by kernel_rfl
theorem zf119 : fieldOf Tryz.prog 33 0 = some (0, 1 + 1, true) := by kernel_rfl
theorem zf120 : Tryz.prog.funcs[52]? = some Tryz.f52 := by kernel_rfl
theorem zf121 : Tryz.prog.funcs[48]? = some Tryz.f48 := by kernel_rfl
theorem zf122 : Tryz.prog.funcs[51]? = some Tryz.f51 := by kernel_rfl
theorem zf123 : Tryz.prog.funcs[66]? = some Tryz.f66 := by kernel_rfl
theorem zf124 : Tryz.prog.funcs[50]? = some Tryz.f50 := by kernel_rfl
theorem zf125 : Tryz.prog.funcs[71]? = some Tryz.f71 := by kernel_rfl
theorem zf126 : Tryz.prog.funcs[28]? = some Tryz.f28 := by kernel_rfl
theorem zf127 : Tryz.prog.funcs[27]? = some Tryz.f27 := by kernel_rfl
theorem zf128 : Tryz.prog.funcs[19]? = some Tryz.f19 := by kernel_rfl
theorem zf129 : Tryz.prog.funcs[40]? = some Tryz.f40 := by kernel_rfl
theorem zf130 : Tryz.prog.funcs[43]? = some Tryz.f43 := by kernel_rfl
theorem zf131 : Tryz.prog.funcs[41]? = some Tryz.f41 := by kernel_rfl
theorem zf132 : Tryz.prog.funcs[42]? = some Tryz.f42 := by kernel_rfl
theorem zf133 : Tryz.prog.funcs[44]? = some Tryz.f44 := by kernel_rfl
theorem zf134 : Tryz.prog.funcs[11]? = some Tryz.f11 := by kernel_rfl
theorem zf135 : Tryz.prog.funcs[45]? = some Tryz.f45 := by kernel_rfl
theorem zf136 : Tryz.prog.funcs[12]? = some Tryz.f12 := by kernel_rfl
theorem zf137 : Tryz.prog.funcs[49]? = some Tryz.f49 := by kernel_rfl
theorem zf138 : Tryz.prog.funcs[13]? = some Tryz.f13 := by kernel_rfl
theorem zf139 : Tryz.prog.funcs[53]? = some Tryz.f53 := by kernel_rfl
theorem zf140 : Tryz.prog.funcs[14]? = some Tryz.f14 := by kernel_rfl
theorem zf141 : Tryz.prog.funcs[23]? = some Tryz.f23 := by kernel_rfl
theorem zf142 : Program.underlying Tryz.prog 42 = some (.slice 3) := by kernel_rfl
theorem zf143 : sizeB Tryz.prog 3 = some 1 := by kernel_rfl
theorem zf144 : Tryz.prog.funcs[72]? = some Tryz.f72 := by kernel_rfl
theorem zf145 : Tryz.prog.funcs[68]? = some Tryz.f68 := by kernel_rfl
theorem zf146 : Tryz.prog.funcs[25]? = some Tryz.f25 := by kernel_rfl
theorem zf147 : Tryz.prog.funcs[10]? = some Tryz.f10 := by kernel_rfl
theorem zf148 : elemInfo Tryz.prog 3 = some ((.int .i64 0), 1, 8) := by kernel_rfl
theorem zf149 : Tryz.prog.funcs[30]? = some Tryz.f30 := by kernel_rfl
theorem zf150 : Tryz.prog.funcs[55]? = some Tryz.f55 := by kernel_rfl
theorem zf151 : Tryz.prog.funcs[15]? = some Tryz.f15 := by kernel_rfl
theorem zf152 : Tryz.prog.funcs[21]? = some Tryz.f21 := by kernel_rfl
theorem zf153 : Program.underlying Tryz.prog 85 = some (.slice 9) := by kernel_rfl
theorem zf154 : Tryz.prog.funcs[3]? = some Tryz.f3 := by kernel_rfl
theorem zf155 : Tryz.prog.funcs[4]? = some Tryz.f4 := by kernel_rfl
theorem zf156 : Tryz.prog.funcs[5]? = some Tryz.f5 := by kernel_rfl
theorem zf157 : elemInfo Tryz.prog 9 = some ((.string ByteArray.empty), 1, 16) := by kernel_rfl
end Go.Proofs.Vc
