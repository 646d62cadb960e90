/- A helper of the claim: general lemmas and walks of functions, printed by a program of this session. Conditions: none. -/
import Derived.Test.YtnbcedkpkcgmkaaGreatDoorQ1
import Derived.Test.YtnbcedkpkcgmkaaGreatDoorProg
import Derived.Test.YtnbcedkpkcgmkaaGreatDoorQ3
namespace Go.Proofs.Vc
open Go Go.RowKit
theorem zL {α : Type} : (∀ l : List α, [] ++ l = l) ∧ (∀ (a : α) (l m : List α), (a :: l) ++ m = a :: (l ++ m)) ∧ (∀ (a b : α) (l : List α), (a :: l).set 0 b = b :: l) ∧ (∀ (a b : α) (l : List α) (i : Nat), (a :: l).set (i + 1) b = a :: l.set i b) ∧
    (∀ l : List α, l.toArray.toList = l) ∧ (∀ l : List α, l.take 0 = []) ∧ (∀ (a : α) (l : List α) (i : Nat), (a :: l).take (i + 1) = a :: l.take i) ∧ (∀ i : Nat, ([] : List α).take i = []) ∧ (∀ l : List α, l.drop 0 = l) ∧ (∀ (a : α) (l : List α) (i : Nat), (a :: l).drop (i + 1) = l.drop i) ∧ (∀ i : Nat, ([] : List α).drop i = []) ∧
    (∀ (a : α) (l : List α), (a :: l).length = l.length + 1) ∧ (([] : List α).length = 0) ∧ (∀ l : List α, l ++ [] = l) ∧ (∀ n : Nat, 0 + n = n) ∧ (∀ n : Nat, n + 0 = n) :=
  ⟨List.nil_append, fun _ _ _ => rfl, fun _ _ _ => rfl, fun _ _ _ _ => rfl, fun _ => rfl, fun _ => rfl, fun _ _ _ => rfl, fun _ => List.take_nil, fun _ => rfl, fun _ _ _ => rfl, fun _ => List.drop_nil, fun _ _ => rfl, rfl, List.append_nil, Nat.zero_add, Nat.add_zero⟩
theorem zR {α : Type} (l : List α) : List.Sublist l l := List.Sublist.refl l
theorem zC {α : Type} {a : α} {l m : List α} (h : List.Sublist l m) : List.Sublist (a :: l) (a :: m) := List.Sublist.cons_cons a h
theorem zD {α : Type} {a : α} {l m : List α} (h : List.Sublist l m) : List.Sublist l (a :: m) := List.Sublist.cons a h
section
variable {P : Program} {ops : Array Oper} {Q Q' : Exit → Act → World → Prop} {n : Nat} {kn : Kn} {w : World} {S : World → Prop}
theorem zn4 {id : Nat} {l : List Oper} {d : Code} (h : wpK P l.toArray (Exit.then (d.wp P Q) Q) n l kn w) : wpK P ops (Exit.then ((Code.seq (.region id l.toArray false) d).wp P Q) Q') n [] kn w := wpK_nil (cp_then (cp_seq (cp_region h)))
theorem zn3 {id : Nat} {l : List Oper} (h : wpK P l.toArray Q n l kn w) : wpK P ops (Exit.then ((Code.region id l.toArray false).wp P Q) Q') n [] kn w := wpK_nil (cp_then (cp_region h))
theorem znq {c d : Code} (h : cpK P c (Exit.then (d.wp P Q) Q) n kn w) : wpK P ops (Exit.then ((Code.seq c d).wp P Q) Q') n [] kn w := wpK_nil (cp_then (cp_seq h))
theorem znt {d : Code} (h : cpK P d Q n kn w) : wpK P ops (Exit.then (d.wp P Q) Q') n [] kn w := wpK_nil (cp_then h)
theorem zsr {id : Nat} {l : List Oper} {d : Code} (h : wpK P l.toArray (Exit.then (d.wp P Q) Q) n l kn w) : cpK P (.seq (.region id l.toArray false) d) Q n kn w := cp_seq (cp_region h)
theorem zk4 {id : Nat} {l : List Oper} {d : Code} (h : wpK P l.toArray (Exit.then (d.wp P Q) Q) n l kn w) : cpK P .skip (Exit.then ((Code.seq (.region id l.toArray false) d).wp P Q) Q') n kn w := cp_skip (cp_then (cp_seq (cp_region h)))
theorem zn5 {K : Act → World → Prop} (h : atK (Q .ret) n kn w) : wpK P ops (Exit.then (Code.ret.wp P (Exit.then K Q)) Q') n [] kn w := wpK_nil (cp_then (cp_ret (at_then_ret h)))
theorem zM {rest : List Oper} {v : Value} {d : Nat} {x : Operand} {t : TypeId} {pos : String} {af : Array Edge} (hd : Nat.ble (d + 1) n = true) (hS : S w) (hx : kev kn x = some v) (h : wpK P ops Q n rest ((d, v) :: kn) w) : wpK P ops Q n (⟨some d, .move x, t, pos, af, none⟩ :: rest) kn w :=
  stepK_d rfl rfl hd hS (does_move rfl hx) h
theorem zA {rest : List Oper} {v : Value} {d : Nat} {x : Operand} {t : TypeId} {pos : String} {af : Array Edge} (hd : Nat.ble (d + 1) n = true) (hS : S w) (hx : kev kn x = some v) (h : wpK P ops Q n rest ((d, v) :: kn) w) : wpK P ops Q n (⟨some d, .assign x, t, pos, af, none⟩ :: rest) kn w :=
  stepK_d rfl rfl hd hS (does_assign rfl hx) h
theorem zE {rest : List Oper} {v : Value} {d i : Nat} {x : Operand} {t : TypeId} {pos : String} {af : Array Edge} {l : List Value} (hd : Nat.ble (d + 1) n = true) (hS : S w) (hx : kev kn x = some (.tuple l.toArray)) (hv : getL l i = some v) (h : wpK P ops Q n rest ((d, v) :: kn) w) : wpK P ops Q n (⟨some d, .extract x i, t, pos, af, none⟩ :: rest) kn w :=
  stepK_d rfl rfl hd hS (does_extract rfl hx hv) h
end
end Go.Proofs.Vc

namespace Go.Proofs.Vc
open Go Go.RowKit
theorem zf0 : Tryz.prog.funcs[103]? = some Tryz.f103 := by kernel_rfl
theorem zf1 : Program.underlying Tryz.prog 101 = some (.slice 84) := by kernel_rfl
theorem zf2 : elemInfo Tryz.prog 84 = some ((.int .u64 0), 1, 8) := by kernel_rfl
theorem zf3 : Tryz.prog.funcs[125]? = some Tryz.f125 := by kernel_rfl
theorem zf4 : sizeB Tryz.prog 84 = some 1 := by kernel_rfl
theorem zf5 : Tryz.prog.funcs[89]? = some Tryz.f89 := by kernel_rfl
theorem zf6 : Tryz.prog.funcs[131]? = some Tryz.f131 := by kernel_rfl
theorem zf7 : Tryz.prog.funcs[133]? = some Tryz.f133 := by kernel_rfl
theorem zf8 : Tryz.prog.funcs[97]? = some Tryz.f97 := by kernel_rfl
theorem zf9 : Tryz.prog.funcs[102]? = some Tryz.f102 := by kernel_rfl
theorem zf10 : Tryz.prog.funcs[132]? = some Tryz.f132 := by kernel_rfl
theorem zf11 : Tryz.prog.funcs[100]? = some Tryz.f100 := by kernel_rfl
theorem zf12 : Tryz.prog.funcs[144]? = some Tryz.f144 := by kernel_rfl
theorem zf13 : Tryz.prog.funcs[127]? = some Tryz.f127 := by kernel_rfl
theorem zf14 : Tryz.prog.funcs[143]? = some Tryz.f143 := by kernel_rfl
theorem zf15 : Tryz.prog.funcs[126]? = some Tryz.f126 := by kernel_rfl
theorem zf16 : Tryz.prog.funcs[94]? = some Tryz.f94 := by kernel_rfl
theorem zf17 : Tryz.prog.funcs[95]? = some Tryz.f95 := by kernel_rfl
theorem zf18 : Tryz.prog.funcs[128]? = some Tryz.f128 := by kernel_rfl
theorem zf19 : Tryz.prog.funcs[129]? = some Tryz.f129 := by kernel_rfl
theorem zf20 : Tryz.prog.funcs[130]? = some Tryz.f130 := by kernel_rfl
theorem zf21 : Tryz.prog.funcs[96]? = some Tryz.f96 := by kernel_rfl
theorem zf22 : Tryz.prog.funcs[90]? = some Tryz.f90 := by kernel_rfl
theorem zf23 : Tryz.prog.funcs[88]? = some Tryz.f88 := by kernel_rfl
theorem zf24 : Tryz.prog.funcs[99]? = some Tryz.f99 := by kernel_rfl
theorem zf25 : fieldOf Tryz.prog 63 1 = some (1, 0 + 1, false) := by kernel_rfl
theorem zf26 : fieldOf Tryz.prog 63 0 = some (0, 0 + 1, false) := by kernel_rfl
theorem zf27 : Tryz.prog.funcs[104]? = some Tryz.f104 := by kernel_rfl
theorem zf28 : Tryz.prog.funcs[91]? = some Tryz.f91 := by kernel_rfl
theorem zf29 : zeroOf Tryz.prog 63 = some (.agg #[.int .i64 0, .int .i64 0, .pointer none]) := by kernel_rfl
theorem zf30 : layOf Tryz.prog 63 = some ([(0, 1), (1, 1), (2, 1)], [.int .i64 0, .int .i64 0, .pointer none]) := by kernel_rfl
theorem zf31 : sizeB Tryz.prog 63 = some 3 := by kernel_rfl
theorem zf32 : sizeB Tryz.prog 2 = some 1 := by kernel_rfl
theorem zf33 : layOf Tryz.prog 119 = some ([(0, 1), (1, 1), (2, 1)], [.bool false, .slice none 0 0, .slice none 0 0]) := by kernel_rfl
theorem zf34 : Tryz.prog.funcs[101]? = some Tryz.f101 := by kernel_rfl
theorem zf35 : Tryz.prog.funcs[92]? = some Tryz.f92 := by kernel_rfl
theorem zf36 : fieldOf Tryz.prog 63 2 = some (2, 0 + 1, false) := by kernel_rfl
theorem zf37 : Program.underlying Tryz.prog 61 = some (.pointer 119) := by kernel_rfl
theorem zf38 : fieldOf Tryz.prog 119 0 = some (0, 0 + 1, false) := by kernel_rfl
theorem zf39 : fieldOf Tryz.prog 119 1 = some (1, 0 + 1, false) := by kernel_rfl
theorem zf40 : fieldOf Tryz.prog 119 2 = some (2, 0 + 1, false) := by kernel_rfl
theorem zf41 : Tryz.prog.funcs[98]? = some Tryz.f98 := by kernel_rfl
theorem zf42 : Tryz.prog.funcs[69]? = some Tryz.f69 := by kernel_rfl
theorem zf43 : Tryz.prog.funcs[84]? = some Tryz.f84 := by kernel_rfl
theorem zf44 : Tryz.prog.funcs[74]? = some Tryz.f74 := by kernel_rfl
theorem zf45 : Tryz.prog.funcs[114]? = some Tryz.f114 := by kernel_rfl
theorem zf46 : Tryz.prog.funcs[43]? = some Tryz.f43 := by kernel_rfl
theorem zf47 : Tryz.prog.funcs[61]? = some Tryz.f61 := by kernel_rfl
theorem zf48 : Tryz.prog.funcs[62]? = some Tryz.f62 := by kernel_rfl
theorem zf49 : Tryz.prog.funcs[39]? = some Tryz.f39 := by kernel_rfl
theorem zf50 : Tryz.prog.funcs[40]? = some Tryz.f40 := by kernel_rfl
theorem zf51 : Tryz.prog.funcs[38]? = some Tryz.f38 := by kernel_rfl
theorem zf52 : Tryz.prog.funcs[116]? = some Tryz.f116 := by kernel_rfl
theorem zf53 : Tryz.prog.funcs[44]? = some Tryz.f44 := by kernel_rfl
theorem zf54 : Tryz.prog.funcs[87]? = some Tryz.f87 := by kernel_rfl
theorem zf55 : Tryz.prog.funcs[36]? = some Tryz.f36 := by kernel_rfl
theorem zf56 : Tryz.prog.funcs[149]? = some Tryz.f149 := by kernel_rfl
theorem zf57 : Tryz.prog.funcs[135]? = some Tryz.f135 := by kernel_rfl
theorem zf58 : Tryz.prog.funcs[152]? = some Tryz.f152 := by kernel_rfl
theorem zf59 : fieldOf Tryz.prog 148 0 = some (0, 0 + 1, false) := by kernel_rfl
theorem zf60 : Program.underlying Tryz.prog 146 = some (.pointer 148) := by kernel_rfl
theorem zf61 : Program.underlying Tryz.prog 175 = some .unsafePointer := by kernel_rfl
theorem zf62 : Tryz.prog.funcs[160]? = some Tryz.f160 := by kernel_rfl
theorem zf63 : Tryz.prog.funcs[136]? = some Tryz.f136 := by kernel_rfl
theorem zf64 : fieldOf Tryz.prog 148 1 = some (1, 0 + 1, false) := by kernel_rfl
theorem zf65 : Tryz.prog.funcs[106]? = some Tryz.f106 := by kernel_rfl
theorem zf66 : Program.underlying Tryz.prog 100 = some (.slice 84) := by kernel_rfl
theorem zf67 : zeroOf Tryz.prog 148 = some (.agg #[.pointer none, .slice none 0 0]) := by kernel_rfl
theorem zf68 : zeroOf Tryz.prog 149 = some (.agg #[.int .u8 0, .int .u8 0, .int .u8 0, .int .u8 0, .int .u8 0, .int .u8 0, .int .u8 0, .int .u8 0, .int .u8 0, .int .u8 0, .int .u8 0, .int .u8 0, .int .u8 0, .int .u8 0, .int .u8 0, .int .u8 0, .int .u8 0, .int .u8 0, .int .u8 0]) := by kernel_rfl
theorem zf69 : Program.underlying Tryz.prog 149 = some (.array 19 5) := by kernel_rfl
theorem zf70 : sizeB Tryz.prog 5 = some 1 := by kernel_rfl
theorem zf71 : Tryz.prog.funcs[137]? = some Tryz.f137 := by kernel_rfl
theorem zf72 : Tryz.prog.funcs[134]? = some Tryz.f134 := by kernel_rfl
theorem zf73 : Tryz.prog.funcs[105]? = some Tryz.f105 := by kernel_rfl
theorem zf74 : Tryz.prog.funcs[45]? = some Tryz.f45 := by kernel_rfl
theorem zf75 : Tryz.prog.funcs[59]? = some Tryz.f59 := by kernel_rfl
theorem zf76 : Program.underlying Tryz.prog 26 = some (.slice 79) := by kernel_rfl
theorem zf77 : sizeB Tryz.prog 79 = some 1 := by kernel_rfl
theorem zf78 : Tryz.prog.funcs[111]? = some Tryz.f111 := by kernel_rfl
theorem zf79 : Tryz.prog.funcs[107]? = some Tryz.f107 := by kernel_rfl
theorem zf80 : elemInfo Tryz.prog 79 = some ((.int .u32 0), 1, 4) := by kernel_rfl
theorem zf81 : Tryz.prog.funcs[112]? = some Tryz.f112 := by kernel_rfl
theorem zf82 : Tryz.prog.funcs[108]? = some Tryz.f108 := by kernel_rfl
theorem zf83 : Tryz.prog.funcs[109]? = some Tryz.f109 := by kernel_rfl
theorem zf84 : Tryz.prog.funcs[110]? = some Tryz.f110 := by kernel_rfl
theorem zf85 : Tryz.prog.funcs[113]? = some Tryz.f113 := by kernel_rfl
theorem zf86 : Tryz.prog.funcs[47]? = some Tryz.f47 := by kernel_rfl
theorem zf87 : zeroOf Tryz.prog 28 = some (.agg #[.bool false, .slice none 0 0]) := by kernel_rfl
theorem zf88 : layOf Tryz.prog 28 = some ([(0, 1), (1, 1)], [.bool false, .slice none 0 0]) := by kernel_rfl
theorem zf89 : sizeB Tryz.prog 28 = some 2 := by kernel_rfl
theorem zf90 : Tryz.prog.funcs[15]? = some Tryz.f15 := by kernel_rfl
theorem zf91 : Tryz.prog.funcs[48]? = some Tryz.f48 := by kernel_rfl
theorem zf92 : fieldOf Tryz.prog 28 0 = some (0, 0 + 1, false) := by kernel_rfl
theorem zf93 : fieldOf Tryz.prog 28 1 = some (1, 0 + 1, false) := by kernel_rfl
theorem zf94 : Tryz.prog.funcs[56]? = some Tryz.f56 := by kernel_rfl
theorem zf95 : Tryz.prog.funcs[55]? = some Tryz.f55 := by kernel_rfl
theorem zf96 : Tryz.prog.funcs[64]? = some Tryz.f64 := by kernel_rfl
theorem zf97 : Tryz.prog.funcs[86]? = some Tryz.f86 := by kernel_rfl
theorem zf98 : Tryz.prog.funcs[18]? = some Tryz.f18 := by kernel_rfl
theorem zf99 : Tryz.prog.funcs[58]? = some Tryz.f58 := by kernel_rfl
theorem zf100 : Tryz.prog.funcs[57]? = some Tryz.f57 := by kernel_rfl
theorem zf101 : Tryz.prog.funcs[28]? = some Tryz.f28 := by kernel_rfl
theorem zf102 : Tryz.prog.funcs[65]? = some Tryz.f65 := by kernel_rfl
theorem zf103 : fieldOf Tryz.prog 30 1 = some (2, 1 + 1, true) := by kernel_rfl
theorem zf104 : Tryz.prog.funcs[19]? = some Tryz.f19 := by kernel_rfl
theorem zf105 : sizeB Tryz.prog 30 = some 4 := by kernel_rfl
theorem zf106 : Tryz.prog.funcs[29]? = some Tryz.f29 := by kernel_rfl
theorem zf107 : zeroOf Tryz.prog 30 = some (.agg #[.bool false, .slice none 0 0, .bool false, .slice none 0 0]) := by kernel_rfl
theorem zf108 : layOf Tryz.prog 30 = some ([(0, 2), (2, 2)], [.bool false, .slice none 0 0, .bool false, .slice none 0 0]) := by kernel_rfl
theorem zf109 : Tryz.prog.funcs[27]? = some Tryz.f27 := by kernel_rfl
theorem zf110 : fieldOf Tryz.prog 30 0 = some (0, 1 + 1, true) := by kernel_rfl
theorem zf111 : Tryz.prog.funcs[66]? = some Tryz.f66 := by kernel_rfl
theorem zf112 : Tryz.prog.funcs[14]? = some Tryz.f14 := by kernel_rfl
theorem zf113 : Tryz.prog.funcs[68]? = some Tryz.f68 := by kernel_rfl
theorem zf114 : Tryz.prog.funcs[53]? = some Tryz.f53 := by kernel_rfl
theorem zf115 : Tryz.prog.funcs[51]? = some Tryz.f51 := by kernel_rfl
theorem zf116 : Tryz.prog.funcs[67]? = some Tryz.f67 := by kernel_rfl
theorem zf117 : Tryz.prog.funcs[20]? = some Tryz.f20 := by kernel_rfl
theorem zf118 : Tryz.prog.funcs[49]? = some Tryz.f49 := by kernel_rfl
theorem zf119 : Program.underlying Tryz.prog 123 = some (.slice 5) := by kernel_rfl
theorem zf120 : elemInfo Tryz.prog 5 = some ((.int .u8 0), 1, 1) := by kernel_rfl
theorem zf121 : Tryz.prog.funcs[46]? = some Tryz.f46 := by kernel_rfl
theorem zf122 : Tryz.prog.funcs[12]? = some Tryz.f12 := by kernel_rfl
theorem zf123 : Tryz.prog.funcs[11]? = some Tryz.f11 := by kernel_rfl
theorem zf124 : Tryz.prog.funcs[17]? = some Tryz.f17 := by kernel_rfl
theorem zf125 : Tryz.prog.funcs[52]? = some Tryz.f52 := by kernel_rfl
theorem zf126 : Tryz.prog.funcs[50]? = some Tryz.f50 := by kernel_rfl
theorem zf127 : Tryz.prog.funcs[70]? = some Tryz.f70 := by kernel_rfl
theorem zf128 : Tryz.prog.funcs[115]? = some Tryz.f115 := by kernel_rfl
theorem zf129 : Tryz.prog.funcs[42]? = some Tryz.f42 := by kernel_rfl
theorem zf130 : Tryz.prog.funcs[73]? = some Tryz.f73 := by kernel_rfl
theorem zf131 : Tryz.prog.funcs[32]? = some Tryz.f32 := by kernel_rfl
theorem zf132 : Tryz.prog.funcs[9]? = some Tryz.f9 := by kernel_rfl
theorem zf133 : Tryz.prog.funcs[54]? = some Tryz.f54 := by kernel_rfl
theorem zf134 : Tryz.prog.funcs[41]? = some Tryz.f41 := by kernel_rfl
theorem zf135 : Tryz.prog.funcs[124]? = some Tryz.f124 := by kernel_rfl
theorem zf136 : Tryz.prog.funcs[93]? = some Tryz.f93 := by kernel_rfl
theorem zf137 : Tryz.prog.funcs[37]? = some Tryz.f37 := by kernel_rfl
theorem zf138 : Tryz.prog.funcs[10]? = some Tryz.f10 := by kernel_rfl
theorem zf139 : Tryz.prog.funcs[13]? = some Tryz.f13 := by kernel_rfl
theorem zf140 : Tryz.prog.funcs[3]? = some Tryz.f3 := by kernel_rfl
theorem zf141 : Tryz.prog.funcs[60]? = some Tryz.f60 := by kernel_rfl
theorem zf142 : Program.underlying Tryz.prog 87 = some (.slice 63) := by kernel_rfl
theorem zf143 : elemInfo Tryz.prog 63 = some ((.agg #[.int .i64 0, .int .i64 0, .pointer none]), 3, 24) := by kernel_rfl
theorem zf144 : Tryz.prog.funcs[63]? = some Tryz.f63 := by kernel_rfl
theorem zf145 : Program.underlying Tryz.prog 38 = some (.slice 9) := by kernel_rfl
theorem zf146 : elemInfo Tryz.prog 9 = some ((.string ByteArray.empty), 1, 16) := by kernel_rfl
theorem zf147 : sizeB Tryz.prog 9 = some 1 := by kernel_rfl
theorem zf148 : Tryz.prog.funcs[16]? = some Tryz.f16 := by kernel_rfl
theorem zf149 : Tryz.prog.funcs[22]? = some Tryz.f22 := by kernel_rfl
theorem zf150 : Tryz.prog.funcs[23]? = some Tryz.f23 := by kernel_rfl
theorem zf151 : Program.underlying Tryz.prog 47 = some (.slice 30) := by kernel_rfl
theorem zf152 : elemInfo Tryz.prog 30 = some ((.agg #[.bool false, .slice none 0 0, .bool false, .slice none 0 0]), 4, 64) := by kernel_rfl
theorem zf153 : Tryz.prog.funcs[25]? = some Tryz.f25 := by kernel_rfl
theorem zf154 : Tryz.prog.funcs[26]? = some Tryz.f26 := by kernel_rfl
theorem zf155 : Tryz.prog.funcs[24]? = some Tryz.f24 := by kernel_rfl
theorem zf156 : Tryz.prog.funcs[72]? = some Tryz.f72 := by kernel_rfl
theorem zf157 : Tryz.prog.funcs[21]? = some Tryz.f21 := by kernel_rfl
theorem zf158 : Tryz.prog.funcs[71]? = some Tryz.f71 := by kernel_rfl
theorem zf159 : Tryz.prog.funcs[30]? = some Tryz.f30 := by kernel_rfl
theorem zf160 : Tryz.prog.funcs[31]? = some Tryz.f31 := by kernel_rfl
theorem zf161 : Tryz.prog.funcs[5]? = some Tryz.f5 := by kernel_rfl
theorem zf162 : Tryz.prog.funcs[4]? = some Tryz.f4 := by kernel_rfl
theorem zf163 : Tryz.prog.funcs[6]? = some Tryz.f6 := by kernel_rfl
theorem zf164 : Tryz.prog.funcs[7]? = some Tryz.f7 := by kernel_rfl
end Go.Proofs.Vc
