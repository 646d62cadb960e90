/- A helper of the claim: general lemmas and walks of functions, printed by a program of this session. Conditions: none. -/
import Derived.Test.YtcjhnkmoloiepaaDoorQ1
import Derived.Test.YtcjhnkmoloiepaaDoorProg
import Derived.Test.YtcjhnkmoloiepaaDoorQ3
namespace Go.Proofs.Vc
open Go Go.RowKit
theorem zL {α : Type} : (∀ l : List α, [] ++ l = l) ∧ (∀ (a : α) (l m : List α), (a :: l) ++ m = a :: (l ++ m)) ∧ (∀ (a b : α) (l : List α), (a :: l).set 0 b = b :: l) ∧ (∀ (a b : α) (l : List α) (i : Nat), (a :: l).set (i + 1) b = a :: l.set i b) ∧
    (∀ l : List α, l.toArray.toList = l) ∧ (∀ l : List α, l.take 0 = []) ∧ (∀ (a : α) (l : List α) (i : Nat), (a :: l).take (i + 1) = a :: l.take i) ∧ (∀ i : Nat, ([] : List α).take i = []) ∧ (∀ l : List α, l.drop 0 = l) ∧ (∀ (a : α) (l : List α) (i : Nat), (a :: l).drop (i + 1) = l.drop i) ∧ (∀ i : Nat, ([] : List α).drop i = []) ∧
    (∀ (a : α) (l : List α), (a :: l).length = l.length + 1) ∧ (([] : List α).length = 0) ∧ (∀ l : List α, l ++ [] = l) ∧ (∀ n : Nat, 0 + n = n) ∧ (∀ n : Nat, n + 0 = n) :=
  ⟨List.nil_append, fun _ _ _ => rfl, fun _ _ _ => rfl, fun _ _ _ _ => rfl, fun _ => rfl, fun _ => rfl, fun _ _ _ => rfl, fun _ => List.take_nil, fun _ => rfl, fun _ _ _ => rfl, fun _ => List.drop_nil, fun _ _ => rfl, rfl, List.append_nil, Nat.zero_add, Nat.add_zero⟩
theorem zR {α : Type} (l : List α) : List.Sublist l l := List.Sublist.refl l
theorem zC {α : Type} {a : α} {l m : List α} (h : List.Sublist l m) : List.Sublist (a :: l) (a :: m) := List.Sublist.cons_cons a h
theorem zD {α : Type} {a : α} {l m : List α} (h : List.Sublist l m) : List.Sublist l (a :: m) := List.Sublist.cons a h
section
variable {P : Program} {ops : Array Oper} {Q Q' : Exit → Act → World → Prop} {n : Nat} {kn : Kn} {w : World} {S : World → Prop}
theorem zn4 {id : Nat} {l : List Oper} {d : Code} (h : wpK P l.toArray (Exit.then (d.wp P Q) Q) n l kn w) : wpK P ops (Exit.then ((Code.seq (.region id l.toArray false) d).wp P Q) Q') n [] kn w := wpK_nil (cp_then (cp_seq (cp_region h)))
theorem zn3 {id : Nat} {l : List Oper} (h : wpK P l.toArray Q n l kn w) : wpK P ops (Exit.then ((Code.region id l.toArray false).wp P Q) Q') n [] kn w := wpK_nil (cp_then (cp_region h))
theorem znq {c d : Code} (h : cpK P c (Exit.then (d.wp P Q) Q) n kn w) : wpK P ops (Exit.then ((Code.seq c d).wp P Q) Q') n [] kn w := wpK_nil (cp_then (cp_seq h))
theorem znt {d : Code} (h : cpK P d Q n kn w) : wpK P ops (Exit.then (d.wp P Q) Q') n [] kn w := wpK_nil (cp_then h)
theorem zsr {id : Nat} {l : List Oper} {d : Code} (h : wpK P l.toArray (Exit.then (d.wp P Q) Q) n l kn w) : cpK P (.seq (.region id l.toArray false) d) Q n kn w := cp_seq (cp_region h)
theorem zk4 {id : Nat} {l : List Oper} {d : Code} (h : wpK P l.toArray (Exit.then (d.wp P Q) Q) n l kn w) : cpK P .skip (Exit.then ((Code.seq (.region id l.toArray false) d).wp P Q) Q') n kn w := cp_skip (cp_then (cp_seq (cp_region h)))
theorem zn5 {K : Act → World → Prop} (h : atK (Q .ret) n kn w) : wpK P ops (Exit.then (Code.ret.wp P (Exit.then K Q)) Q') n [] kn w := wpK_nil (cp_then (cp_ret (at_then_ret h)))
theorem zM {rest : List Oper} {v : Value} {d : Nat} {x : Operand} {t : TypeId} {pos : String} {af : Array Edge} (hd : Nat.ble (d + 1) n = true) (hS : S w) (hx : kev kn x = some v) (h : wpK P ops Q n rest ((d, v) :: kn) w) : wpK P ops Q n (⟨some d, .move x, t, pos, af, none⟩ :: rest) kn w :=
  stepK_d rfl rfl hd hS (does_move rfl hx) h
theorem zA {rest : List Oper} {v : Value} {d : Nat} {x : Operand} {t : TypeId} {pos : String} {af : Array Edge} (hd : Nat.ble (d + 1) n = true) (hS : S w) (hx : kev kn x = some v) (h : wpK P ops Q n rest ((d, v) :: kn) w) : wpK P ops Q n (⟨some d, .assign x, t, pos, af, none⟩ :: rest) kn w :=
  stepK_d rfl rfl hd hS (does_assign rfl hx) h
theorem zE {rest : List Oper} {v : Value} {d i : Nat} {x : Operand} {t : TypeId} {pos : String} {af : Array Edge} {l : List Value} (hd : Nat.ble (d + 1) n = true) (hS : S w) (hx : kev kn x = some (.tuple l.toArray)) (hv : getL l i = some v) (h : wpK P ops Q n rest ((d, v) :: kn) w) : wpK P ops Q n (⟨some d, .extract x i, t, pos, af, none⟩ :: rest) kn w :=
  stepK_d rfl rfl hd hS (does_extract rfl hx hv) h
end
end Go.Proofs.Vc

namespace Go.Proofs.Vc
open Go Go.RowKit
theorem zf0 : Tryd.prog.funcs[46]? = some Tryd.f46 := by kernel_rfl
theorem zf1 : Program.underlying Tryd.prog 71 = some (.slice 51) := by kernel_rfl
theorem zf2 : elemInfo Tryd.prog 51 = some ((.int .u64 0), 1, 8) := by kernel_rfl
theorem zf3 : Tryd.prog.funcs[66]? = some Tryd.f66 := by kernel_rfl
theorem zf4 : sizeB Tryd.prog 51 = some 1 := by kernel_rfl
theorem zf5 : Tryd.prog.funcs[53]? = some Tryd.f53 := by kernel_rfl
theorem zf6 : Tryd.prog.funcs[65]? = some Tryd.f65 := by kernel_rfl
theorem zf7 : Tryd.prog.funcs[67]? = some Tryd.f67 := by kernel_rfl
theorem zf8 : Tryd.prog.funcs[52]? = some Tryd.f52 := by kernel_rfl
theorem zf9 : Tryd.prog.funcs[54]? = some Tryd.f54 := by kernel_rfl
theorem zf10 : Tryd.prog.funcs[64]? = some Tryd.f64 := by kernel_rfl
theorem zf11 : Tryd.prog.funcs[51]? = some Tryd.f51 := by kernel_rfl
theorem zf12 : Tryd.prog.funcs[89]? = some Tryd.f89 := by kernel_rfl
theorem zf13 : Tryd.prog.funcs[73]? = some Tryd.f73 := by kernel_rfl
theorem zf14 : Tryd.prog.funcs[83]? = some Tryd.f83 := by kernel_rfl
theorem zf15 : Tryd.prog.funcs[69]? = some Tryd.f69 := by kernel_rfl
theorem zf16 : Tryd.prog.funcs[74]? = some Tryd.f74 := by kernel_rfl
theorem zf17 : Tryd.prog.funcs[78]? = some Tryd.f78 := by kernel_rfl
theorem zf18 : Tryd.prog.funcs[75]? = some Tryd.f75 := by kernel_rfl
theorem zf19 : Tryd.prog.funcs[76]? = some Tryd.f76 := by kernel_rfl
theorem zf20 : Tryd.prog.funcs[77]? = some Tryd.f77 := by kernel_rfl
theorem zf21 : Tryd.prog.funcs[62]? = some Tryd.f62 := by kernel_rfl
theorem zf22 : Tryd.prog.funcs[59]? = some Tryd.f59 := by kernel_rfl
theorem zf23 : Tryd.prog.funcs[58]? = some Tryd.f58 := by kernel_rfl
theorem zf24 : Tryd.prog.funcs[49]? = some Tryd.f49 := by kernel_rfl
theorem zf25 : fieldOf Tryd.prog 46 1 = some (1, 0 + 1, false) := by kernel_rfl
theorem zf26 : fieldOf Tryd.prog 46 0 = some (0, 0 + 1, false) := by kernel_rfl
theorem zf27 : Tryd.prog.funcs[47]? = some Tryd.f47 := by kernel_rfl
theorem zf28 : Tryd.prog.funcs[60]? = some Tryd.f60 := by kernel_rfl
theorem zf29 : zeroOf Tryd.prog 46 = some (.agg #[.int .i64 0, .int .i64 0, .pointer none]) := by kernel_rfl
theorem zf30 : layOf Tryd.prog 46 = some ([(0, 1), (1, 1), (2, 1)], [.int .i64 0, .int .i64 0, .pointer none]) := by kernel_rfl
theorem zf31 : sizeB Tryd.prog 46 = some 3 := by kernel_rfl
theorem zf32 : sizeB Tryd.prog 2 = some 1 := by kernel_rfl
theorem zf33 : layOf Tryd.prog 85 = some ([(0, 1), (1, 1), (2, 1)], [.bool false, .slice none 0 0, .slice none 0 0]) := by kernel_rfl
theorem zf34 : Tryd.prog.funcs[45]? = some Tryd.f45 := by kernel_rfl
theorem zf35 : Tryd.prog.funcs[48]? = some Tryd.f48 := by kernel_rfl
theorem zf36 : fieldOf Tryd.prog 46 2 = some (2, 0 + 1, false) := by kernel_rfl
theorem zf37 : Program.underlying Tryd.prog 44 = some (.pointer 85) := by kernel_rfl
theorem zf38 : fieldOf Tryd.prog 85 0 = some (0, 0 + 1, false) := by kernel_rfl
theorem zf39 : fieldOf Tryd.prog 85 1 = some (1, 0 + 1, false) := by kernel_rfl
theorem zf40 : fieldOf Tryd.prog 85 2 = some (2, 0 + 1, false) := by kernel_rfl
theorem zf41 : Tryd.prog.funcs[50]? = some Tryd.f50 := by kernel_rfl
theorem zf42 : Tryd.prog.funcs[30]? = some Tryd.f30 := by kernel_rfl
theorem zf43 : Tryd.prog.funcs[42]? = some Tryd.f42 := by kernel_rfl
theorem zf44 : Tryd.prog.funcs[63]? = some Tryd.f63 := by kernel_rfl
theorem zf45 : Tryd.prog.funcs[61]? = some Tryd.f61 := by kernel_rfl
theorem zf46 : Tryd.prog.funcs[25]? = some Tryd.f25 := by kernel_rfl
theorem zf47 : Tryd.prog.funcs[26]? = some Tryd.f26 := by kernel_rfl
theorem zf48 : Tryd.prog.funcs[39]? = some Tryd.f39 := by kernel_rfl
theorem zf49 : Tryd.prog.funcs[41]? = some Tryd.f41 := by kernel_rfl
theorem zf50 : Tryd.prog.funcs[29]? = some Tryd.f29 := by kernel_rfl
theorem zf51 : Tryd.prog.funcs[40]? = some Tryd.f40 := by kernel_rfl
theorem zf52 : Tryd.prog.funcs[20]? = some Tryd.f20 := by kernel_rfl
theorem zf53 : Tryd.prog.funcs[57]? = some Tryd.f57 := by kernel_rfl
theorem zf54 : Tryd.prog.funcs[31]? = some Tryd.f31 := by kernel_rfl
theorem zf55 : Tryd.prog.funcs[84]? = some Tryd.f84 := by kernel_rfl
theorem zf56 : Tryd.prog.funcs[70]? = some Tryd.f70 := by kernel_rfl
theorem zf57 : Tryd.prog.funcs[88]? = some Tryd.f88 := by kernel_rfl
theorem zf58 : fieldOf Tryd.prog 99 0 = some (0, 0 + 1, false) := by kernel_rfl
theorem zf59 : Program.underlying Tryd.prog 96 = some (.pointer 99) := by kernel_rfl
theorem zf60 : Program.underlying Tryd.prog 133 = some .unsafePointer := by kernel_rfl
theorem zf61 : Tryd.prog.funcs[97]? = some Tryd.f97 := by kernel_rfl
theorem zf62 : Tryd.prog.funcs[71]? = some Tryd.f71 := by kernel_rfl
theorem zf63 : fieldOf Tryd.prog 99 1 = some (1, 0 + 1, false) := by kernel_rfl
theorem zf64 : Tryd.prog.funcs[56]? = some Tryd.f56 := by kernel_rfl
theorem zf65 : Program.underlying Tryd.prog 67 = some (.slice 51) := by kernel_rfl
theorem zf66 : zeroOf Tryd.prog 99 = some (.agg #[.pointer none, .slice none 0 0]) := by kernel_rfl
theorem zf67 : zeroOf Tryd.prog 100 = some (.agg #[.int .u8 0, .int .u8 0, .int .u8 0, .int .u8 0, .int .u8 0, .int .u8 0, .int .u8 0, .int .u8 0, .int .u8 0, .int .u8 0, .int .u8 0, .int .u8 0, .int .u8 0, .int .u8 0, .int .u8 0, .int .u8 0, .int .u8 0, .int .u8 0, .int .u8 0]) := by kernel_rfl
theorem zf68 : Program.underlying Tryd.prog 100 = some (.array 19 5) := by kernel_rfl
theorem zf69 : sizeB Tryd.prog 5 = some 1 := by kernel_rfl
theorem zf70 : Tryd.prog.funcs[72]? = some Tryd.f72 := by kernel_rfl
theorem zf71 : Tryd.prog.funcs[68]? = some Tryd.f68 := by kernel_rfl
theorem zf72 : Tryd.prog.funcs[55]? = some Tryd.f55 := by kernel_rfl
theorem zf73 : Tryd.prog.funcs[27]? = some Tryd.f27 := by kernel_rfl
theorem zf74 : Tryd.prog.funcs[28]? = some Tryd.f28 := by kernel_rfl
theorem zf75 : Tryd.prog.funcs[13]? = some Tryd.f13 := by kernel_rfl
theorem zf76 : Tryd.prog.funcs[32]? = some Tryd.f32 := by kernel_rfl
theorem zf77 : Tryd.prog.funcs[33]? = some Tryd.f33 := by kernel_rfl
theorem zf78 : Tryd.prog.funcs[37]? = some Tryd.f37 := by kernel_rfl
theorem zf79 : Tryd.prog.funcs[22]? = some Tryd.f22 := by kernel_rfl
theorem zf80 : Tryd.prog.funcs[43]? = some Tryd.f43 := by kernel_rfl
theorem zf81 : Tryd.prog.funcs[14]? = some Tryd.f14 := by kernel_rfl
theorem zf82 : Tryd.prog.funcs[8]? = some Tryd.f8 := by kernel_rfl
theorem zf83 : Tryd.prog.funcs[9]? = some Tryd.f9 := by kernel_rfl
theorem zf84 : Tryd.prog.funcs[23]? = some Tryd.f23 := by kernel_rfl
theorem zf85 : Tryd.prog.funcs[24]? = some Tryd.f24 := by kernel_rfl
theorem zf86 : Tryd.prog.funcs[34]? = some Tryd.f34 := by kernel_rfl
theorem zf87 : Tryd.prog.funcs[21]? = some Tryd.f21 := by kernel_rfl
theorem zf88 : Tryd.prog.funcs[15]? = some Tryd.f15 := by kernel_rfl
theorem zf89 : Tryd.prog.funcs[12]? = some Tryd.f12 := by kernel_rfl
theorem zf90 : Program.underlying Tryd.prog 26 = some (.slice 3) := by kernel_rfl
theorem zf91 : sizeB Tryd.prog 3 = some 1 := by kernel_rfl
theorem zf92 : Tryd.prog.funcs[44]? = some Tryd.f44 := by kernel_rfl
theorem zf93 : Tryd.prog.funcs[38]? = some Tryd.f38 := by kernel_rfl
theorem zf94 : Tryd.prog.funcs[19]? = some Tryd.f19 := by kernel_rfl
theorem zf95 : Tryd.prog.funcs[10]? = some Tryd.f10 := by kernel_rfl
theorem zf96 : elemInfo Tryd.prog 3 = some ((.int .i64 0), 1, 8) := by kernel_rfl
theorem zf97 : Tryd.prog.funcs[6]? = some Tryd.f6 := by kernel_rfl
theorem zf98 : Tryd.prog.funcs[7]? = some Tryd.f7 := by kernel_rfl
theorem zf99 : Tryd.prog.funcs[11]? = some Tryd.f11 := by kernel_rfl
theorem zf100 : Tryd.prog.funcs[3]? = some Tryd.f3 := by kernel_rfl
theorem zf101 : Tryd.prog.funcs[4]? = some Tryd.f4 := by kernel_rfl
end Go.Proofs.Vc
