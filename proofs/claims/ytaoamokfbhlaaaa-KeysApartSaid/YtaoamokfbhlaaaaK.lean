/- The facts of the program that the walks use: codes, layouts, slice types. Printed by a program of this session. -/
import Derived.Test.YtaoamokfbhlaaaaProg
import Derived.Test.YtaoamokfbhlaaaaE7
set_option linter.unusedVariables false
namespace Go.Proofs.Ytaoamokfbhlaaaa.E
open Go Go.RowKit
open Go.Proofs
theorem C3 : callable Try.prog 3 = true := by kernel_rfl
theorem C4 : callable Try.prog 4 = true := by kernel_rfl
theorem C5 : callable Try.prog 5 = true := by kernel_rfl
theorem C6 : callable Try.prog 6 = true := by kernel_rfl
theorem C7 : callable Try.prog 7 = true := by kernel_rfl
theorem C8 : callable Try.prog 8 = true := by kernel_rfl
theorem C9 : callable Try.prog 9 = true := by kernel_rfl
theorem C10 : callable Try.prog 10 = true := by kernel_rfl
theorem C11 : callable Try.prog 11 = true := by kernel_rfl
theorem C12 : callable Try.prog 12 = true := by kernel_rfl
theorem C13 : callable Try.prog 13 = true := by kernel_rfl
theorem C14 : callable Try.prog 14 = true := by kernel_rfl
theorem C15 : callable Try.prog 15 = true := by kernel_rfl
theorem C16 : callable Try.prog 16 = true := by kernel_rfl
theorem C17 : callable Try.prog 17 = true := by kernel_rfl
theorem C18 : callable Try.prog 18 = true := by kernel_rfl
theorem C19 : callable Try.prog 19 = true := by kernel_rfl
theorem C20 : callable Try.prog 20 = true := by kernel_rfl
theorem C21 : callable Try.prog 21 = true := by kernel_rfl
theorem C22 : callable Try.prog 22 = true := by kernel_rfl
theorem C23 : callable Try.prog 23 = true := by kernel_rfl
theorem C24 : callable Try.prog 24 = true := by kernel_rfl
theorem C25 : callable Try.prog 25 = true := by kernel_rfl
theorem C26 : callable Try.prog 26 = true := by kernel_rfl
theorem C27 : callable Try.prog 27 = true := by kernel_rfl
theorem C28 : callable Try.prog 28 = true := by kernel_rfl
theorem C29 : callable Try.prog 29 = true := by kernel_rfl
theorem C30 : callable Try.prog 30 = true := by kernel_rfl
theorem C31 : callable Try.prog 31 = true := by kernel_rfl
theorem C32 : callable Try.prog 32 = true := by kernel_rfl
theorem C33 : callable Try.prog 33 = true := by kernel_rfl
theorem C34 : callable Try.prog 34 = true := by kernel_rfl
theorem C35 : callable Try.prog 35 = true := by kernel_rfl
theorem C36 : callable Try.prog 36 = true := by kernel_rfl
theorem C37 : callable Try.prog 37 = true := by kernel_rfl
theorem C38 : callable Try.prog 38 = true := by kernel_rfl
theorem C39 : callable Try.prog 39 = true := by kernel_rfl
theorem C40 : callable Try.prog 40 = true := by kernel_rfl
theorem C41 : callable Try.prog 41 = true := by kernel_rfl
theorem C42 : callable Try.prog 42 = true := by kernel_rfl
theorem C43 : callable Try.prog 43 = true := by kernel_rfl
theorem C44 : callable Try.prog 44 = true := by kernel_rfl
theorem C45 : callable Try.prog 45 = true := by kernel_rfl
theorem C46 : callable Try.prog 46 = true := by kernel_rfl
theorem C47 : callable Try.prog 47 = true := by kernel_rfl
theorem C48 : callable Try.prog 48 = true := by kernel_rfl
noncomputable def c3 : Code := (Try.f3.body).getD .skip
noncomputable def c4 : Code := (Try.f4.body).getD .skip
noncomputable def c5 : Code := (Try.f5.body).getD .skip
noncomputable def c6 : Code := (Try.f6.body).getD .skip
noncomputable def c7 : Code := (Try.f7.body).getD .skip
noncomputable def c8 : Code := (Try.f8.body).getD .skip
noncomputable def c9 : Code := (Try.f9.body).getD .skip
noncomputable def c10 : Code := (Try.f10.body).getD .skip
noncomputable def c11 : Code := (Try.f11.body).getD .skip
noncomputable def c12 : Code := (Try.f12.body).getD .skip
noncomputable def c13 : Code := (Try.f13.body).getD .skip
noncomputable def c14 : Code := (Try.f14.body).getD .skip
noncomputable def c15 : Code := (Try.f15.body).getD .skip
noncomputable def c16 : Code := (Try.f16.body).getD .skip
noncomputable def c17 : Code := (Try.f17.body).getD .skip
noncomputable def c18 : Code := (Try.f18.body).getD .skip
noncomputable def c19 : Code := (Try.f19.body).getD .skip
noncomputable def c20 : Code := (Try.f20.body).getD .skip
noncomputable def c21 : Code := (Try.f21.body).getD .skip
noncomputable def c22 : Code := (Try.f22.body).getD .skip
noncomputable def c23 : Code := (Try.f23.body).getD .skip
noncomputable def c24 : Code := (Try.f24.body).getD .skip
noncomputable def c25 : Code := (Try.f25.body).getD .skip
noncomputable def c26 : Code := (Try.f26.body).getD .skip
noncomputable def c27 : Code := (Try.f27.body).getD .skip
noncomputable def c28 : Code := (Try.f28.body).getD .skip
noncomputable def c29 : Code := (Try.f29.body).getD .skip
noncomputable def c30 : Code := (Try.f30.body).getD .skip
noncomputable def c31 : Code := (Try.f31.body).getD .skip
noncomputable def c32 : Code := (Try.f32.body).getD .skip
noncomputable def c33 : Code := (Try.f33.body).getD .skip
noncomputable def c34 : Code := (Try.f34.body).getD .skip
noncomputable def c35 : Code := (Try.f35.body).getD .skip
noncomputable def c36 : Code := (Try.f36.body).getD .skip
noncomputable def c37 : Code := (Try.f37.body).getD .skip
noncomputable def c38 : Code := (Try.f38.body).getD .skip
noncomputable def c39 : Code := (Try.f39.body).getD .skip
noncomputable def c40 : Code := (Try.f40.body).getD .skip
noncomputable def c41 : Code := (Try.f41.body).getD .skip
noncomputable def c42 : Code := (Try.f42.body).getD .skip
noncomputable def c43 : Code := (Try.f43.body).getD .skip
noncomputable def c44 : Code := (Try.f44.body).getD .skip
noncomputable def c45 : Code := (Try.f45.body).getD .skip
noncomputable def c46 : Code := (Try.f46.body).getD .skip
noncomputable def c47 : Code := (Try.f47.body).getD .skip
noncomputable def c48 : Code := (Try.f48.body).getD .skip
theorem L1 : Lay Try.prog 1 false 1 := ⟨fun _ => by kernel_rfl, fun _ => by kernel_rfl⟩
theorem L2 : Lay Try.prog 2 false 1 := ⟨fun _ => by kernel_rfl, fun _ => by kernel_rfl⟩
theorem L3 : Lay Try.prog 3 false 1 := ⟨fun _ => by kernel_rfl, fun _ => by kernel_rfl⟩
theorem L4 : Lay Try.prog 4 false 1 := ⟨fun _ => by kernel_rfl, fun _ => by kernel_rfl⟩
theorem L5 : Lay Try.prog 5 false 1 := ⟨fun _ => by kernel_rfl, fun _ => by kernel_rfl⟩
theorem L6 : Lay Try.prog 6 false 1 := ⟨fun _ => by kernel_rfl, fun _ => by kernel_rfl⟩
theorem L7 : Lay Try.prog 7 true 4 := ⟨fun _ => by kernel_rfl, fun _ => by kernel_rfl⟩
theorem L8 : Lay Try.prog 8 true 4 := ⟨fun _ => by kernel_rfl, fun _ => by kernel_rfl⟩
theorem L9 : Lay Try.prog 9 false 1 := ⟨fun _ => by kernel_rfl, fun _ => by kernel_rfl⟩
theorem L10 : Lay Try.prog 10 false 1 := ⟨fun _ => by kernel_rfl, fun _ => by kernel_rfl⟩
theorem L11 : Lay Try.prog 11 false 1 := ⟨fun _ => by kernel_rfl, fun _ => by kernel_rfl⟩
theorem L12 : Lay Try.prog 12 false 1 := ⟨fun _ => by kernel_rfl, fun _ => by kernel_rfl⟩
theorem L13 : Lay Try.prog 13 true 2 := ⟨fun _ => by kernel_rfl, fun _ => by kernel_rfl⟩
theorem L14 : Lay Try.prog 14 true 2 := ⟨fun _ => by kernel_rfl, fun _ => by kernel_rfl⟩
theorem L15 : Lay Try.prog 15 false 1 := ⟨fun _ => by kernel_rfl, fun _ => by kernel_rfl⟩
theorem L16 : Lay Try.prog 16 false 1 := ⟨fun _ => by kernel_rfl, fun _ => by kernel_rfl⟩
theorem L17 : Lay Try.prog 17 false 1 := ⟨fun _ => by kernel_rfl, fun _ => by kernel_rfl⟩
theorem L18 : Lay Try.prog 18 true 1 := ⟨fun _ => by kernel_rfl, fun _ => by kernel_rfl⟩
theorem L19 : Lay Try.prog 19 true 1 := ⟨fun _ => by kernel_rfl, fun _ => by kernel_rfl⟩
theorem L20 : Lay Try.prog 20 false 1 := ⟨fun _ => by kernel_rfl, fun _ => by kernel_rfl⟩
theorem L21 : Lay Try.prog 21 false 1 := ⟨fun _ => by kernel_rfl, fun _ => by kernel_rfl⟩
theorem L22 : Lay Try.prog 22 false 1 := ⟨fun _ => by kernel_rfl, fun _ => by kernel_rfl⟩
theorem L23 : Lay Try.prog 23 false 1 := ⟨fun _ => by kernel_rfl, fun _ => by kernel_rfl⟩
theorem L24 : Lay Try.prog 24 false 1 := ⟨fun _ => by kernel_rfl, fun _ => by kernel_rfl⟩
theorem L25 : Lay Try.prog 25 false 1 := ⟨fun _ => by kernel_rfl, fun _ => by kernel_rfl⟩
theorem L26 : Lay Try.prog 26 false 1 := ⟨fun _ => by kernel_rfl, fun _ => by kernel_rfl⟩
theorem L27 : Lay Try.prog 27 false 1 := ⟨fun _ => by kernel_rfl, fun _ => by kernel_rfl⟩
theorem L28 : Lay Try.prog 28 false 1 := ⟨fun _ => by kernel_rfl, fun _ => by kernel_rfl⟩
theorem L29 : Lay Try.prog 29 false 1 := ⟨fun _ => by kernel_rfl, fun _ => by kernel_rfl⟩
theorem L30 : Lay Try.prog 30 false 1 := ⟨fun _ => by kernel_rfl, fun _ => by kernel_rfl⟩
theorem L31 : Lay Try.prog 31 false 1 := ⟨fun _ => by kernel_rfl, fun _ => by kernel_rfl⟩
theorem L32 : Lay Try.prog 32 false 1 := ⟨fun _ => by kernel_rfl, fun _ => by kernel_rfl⟩
theorem L33 : Lay Try.prog 33 false 1 := ⟨fun _ => by kernel_rfl, fun _ => by kernel_rfl⟩
theorem L34 : Lay Try.prog 34 false 1 := ⟨fun _ => by kernel_rfl, fun _ => by kernel_rfl⟩
theorem L35 : Lay Try.prog 35 false 1 := ⟨fun _ => by kernel_rfl, fun _ => by kernel_rfl⟩
theorem L36 : Lay Try.prog 36 false 1 := ⟨fun _ => by kernel_rfl, fun _ => by kernel_rfl⟩
theorem L38 : Lay Try.prog 38 false 1 := ⟨fun _ => by kernel_rfl, fun _ => by kernel_rfl⟩
theorem L39 : Lay Try.prog 39 false 1 := ⟨fun _ => by kernel_rfl, fun _ => by kernel_rfl⟩
theorem L40 : Lay Try.prog 40 false 1 := ⟨fun _ => by kernel_rfl, fun _ => by kernel_rfl⟩
theorem L41 : Lay Try.prog 41 false 1 := ⟨fun _ => by kernel_rfl, fun _ => by kernel_rfl⟩
theorem L42 : Lay Try.prog 42 false 1 := ⟨fun _ => by kernel_rfl, fun _ => by kernel_rfl⟩
theorem L43 : Lay Try.prog 43 false 1 := ⟨fun _ => by kernel_rfl, fun _ => by kernel_rfl⟩
theorem L44 : Lay Try.prog 44 false 1 := ⟨fun _ => by kernel_rfl, fun _ => by kernel_rfl⟩
theorem L46 : Lay Try.prog 46 false 1 := ⟨fun _ => by kernel_rfl, fun _ => by kernel_rfl⟩
theorem L47 : Lay Try.prog 47 false 1 := ⟨fun _ => by kernel_rfl, fun _ => by kernel_rfl⟩
theorem L48 : Lay Try.prog 48 false 1 := ⟨fun _ => by kernel_rfl, fun _ => by kernel_rfl⟩
theorem L49 : Lay Try.prog 49 false 1 := ⟨fun _ => by kernel_rfl, fun _ => by kernel_rfl⟩
theorem L50 : Lay Try.prog 50 false 1 := ⟨fun _ => by kernel_rfl, fun _ => by kernel_rfl⟩
theorem L51 : Lay Try.prog 51 false 1 := ⟨fun _ => by kernel_rfl, fun _ => by kernel_rfl⟩
theorem L52 : Lay Try.prog 52 true 2 := ⟨fun _ => by kernel_rfl, fun _ => by kernel_rfl⟩
theorem L53 : Lay Try.prog 53 true 2 := ⟨fun _ => by kernel_rfl, fun _ => by kernel_rfl⟩
theorem L54 : Lay Try.prog 54 false 1 := ⟨fun _ => by kernel_rfl, fun _ => by kernel_rfl⟩
theorem L55 : Lay Try.prog 55 true 7 := ⟨fun _ => by kernel_rfl, fun _ => by kernel_rfl⟩
theorem L56 : Lay Try.prog 56 true 7 := ⟨fun _ => by kernel_rfl, fun _ => by kernel_rfl⟩
theorem L57 : Lay Try.prog 57 false 1 := ⟨fun _ => by kernel_rfl, fun _ => by kernel_rfl⟩
theorem L58 : Lay Try.prog 58 false 1 := ⟨fun _ => by kernel_rfl, fun _ => by kernel_rfl⟩
theorem L59 : Lay Try.prog 59 true 10 := ⟨fun _ => by kernel_rfl, fun _ => by kernel_rfl⟩
theorem L60 : Lay Try.prog 60 true 10 := ⟨fun _ => by kernel_rfl, fun _ => by kernel_rfl⟩
theorem L61 : Lay Try.prog 61 false 1 := ⟨fun _ => by kernel_rfl, fun _ => by kernel_rfl⟩
theorem L62 : Lay Try.prog 62 false 1 := ⟨fun _ => by kernel_rfl, fun _ => by kernel_rfl⟩
theorem L63 : Lay Try.prog 63 false 1 := ⟨fun _ => by kernel_rfl, fun _ => by kernel_rfl⟩
theorem L64 : Lay Try.prog 64 false 1 := ⟨fun _ => by kernel_rfl, fun _ => by kernel_rfl⟩
theorem L65 : Lay Try.prog 65 false 1 := ⟨fun _ => by kernel_rfl, fun _ => by kernel_rfl⟩
theorem L66 : Lay Try.prog 66 false 1 := ⟨fun _ => by kernel_rfl, fun _ => by kernel_rfl⟩
theorem L67 : Lay Try.prog 67 true 5 := ⟨fun _ => by kernel_rfl, fun _ => by kernel_rfl⟩
theorem L68 : Lay Try.prog 68 true 5 := ⟨fun _ => by kernel_rfl, fun _ => by kernel_rfl⟩
theorem L70 : Lay Try.prog 70 false 1 := ⟨fun _ => by kernel_rfl, fun _ => by kernel_rfl⟩
theorem L71 : Lay Try.prog 71 false 1 := ⟨fun _ => by kernel_rfl, fun _ => by kernel_rfl⟩
theorem L73 : Lay Try.prog 73 false 1 := ⟨fun _ => by kernel_rfl, fun _ => by kernel_rfl⟩
theorem L74 : Lay Try.prog 74 false 1 := ⟨fun _ => by kernel_rfl, fun _ => by kernel_rfl⟩
theorem L75 : Lay Try.prog 75 false 1 := ⟨fun _ => by kernel_rfl, fun _ => by kernel_rfl⟩
theorem L77 : Lay Try.prog 77 false 1 := ⟨fun _ => by kernel_rfl, fun _ => by kernel_rfl⟩
theorem L78 : Lay Try.prog 78 false 1 := ⟨fun _ => by kernel_rfl, fun _ => by kernel_rfl⟩
theorem L79 : Lay Try.prog 79 false 1 := ⟨fun _ => by kernel_rfl, fun _ => by kernel_rfl⟩
theorem L80 : Lay Try.prog 80 false 1 := ⟨fun _ => by kernel_rfl, fun _ => by kernel_rfl⟩
theorem L81 : Lay Try.prog 81 false 1 := ⟨fun _ => by kernel_rfl, fun _ => by kernel_rfl⟩
theorem L82 : Lay Try.prog 82 false 1 := ⟨fun _ => by kernel_rfl, fun _ => by kernel_rfl⟩
theorem L83 : Lay Try.prog 83 false 1 := ⟨fun _ => by kernel_rfl, fun _ => by kernel_rfl⟩
theorem L84 : Lay Try.prog 84 false 1 := ⟨fun _ => by kernel_rfl, fun _ => by kernel_rfl⟩
theorem L85 : Lay Try.prog 85 true 4 := ⟨fun _ => by kernel_rfl, fun _ => by kernel_rfl⟩
theorem L86 : Lay Try.prog 86 true 4 := ⟨fun _ => by kernel_rfl, fun _ => by kernel_rfl⟩
theorem L87 : Lay Try.prog 87 true 0 := ⟨fun _ => by kernel_rfl, fun _ => by kernel_rfl⟩
theorem L88 : Lay Try.prog 88 true 0 := ⟨fun _ => by kernel_rfl, fun _ => by kernel_rfl⟩
theorem L89 : Lay Try.prog 89 true 0 := ⟨fun _ => by kernel_rfl, fun _ => by kernel_rfl⟩
theorem L90 : Lay Try.prog 90 false 1 := ⟨fun _ => by kernel_rfl, fun _ => by kernel_rfl⟩
theorem L91 : Lay Try.prog 91 false 1 := ⟨fun _ => by kernel_rfl, fun _ => by kernel_rfl⟩
theorem L92 : Lay Try.prog 92 false 1 := ⟨fun _ => by kernel_rfl, fun _ => by kernel_rfl⟩
theorem L93 : Lay Try.prog 93 false 1 := ⟨fun _ => by kernel_rfl, fun _ => by kernel_rfl⟩
theorem L94 : Lay Try.prog 94 false 1 := ⟨fun _ => by kernel_rfl, fun _ => by kernel_rfl⟩
theorem L95 : Lay Try.prog 95 false 1 := ⟨fun _ => by kernel_rfl, fun _ => by kernel_rfl⟩
theorem L96 : Lay Try.prog 96 false 1 := ⟨fun _ => by kernel_rfl, fun _ => by kernel_rfl⟩
theorem L97 : Lay Try.prog 97 false 1 := ⟨fun _ => by kernel_rfl, fun _ => by kernel_rfl⟩
theorem L98 : Lay Try.prog 98 true 11 := ⟨fun _ => by kernel_rfl, fun _ => by kernel_rfl⟩
theorem L99 : Lay Try.prog 99 true 11 := ⟨fun _ => by kernel_rfl, fun _ => by kernel_rfl⟩
theorem U2 : Try.prog.underlying 2 = some (.int .i64) := by kernel_rfl
theorem U3 : Try.prog.underlying 3 = some (.int .i64) := by kernel_rfl
theorem U4 : Try.prog.underlying 4 = some .bool := by kernel_rfl
theorem U5 : Try.prog.underlying 5 = some (.int .u8) := by kernel_rfl
theorem U6 : Try.prog.underlying 6 = some (.int .u8) := by kernel_rfl
theorem U9 : Try.prog.underlying 9 = some .string := by kernel_rfl
theorem U10 : Try.prog.underlying 10 = some .string := by kernel_rfl
theorem U11 : Try.prog.underlying 11 = some .string := by kernel_rfl
theorem U12 : Try.prog.underlying 12 = some (.int .u64) := by kernel_rfl
theorem U15 : Try.prog.underlying 15 = some (.pointer 86) := by kernel_rfl
theorem U16 : Try.prog.underlying 16 = some (.pointer 89) := by kernel_rfl
theorem U17 : Try.prog.underlying 17 = some (.pointer 99) := by kernel_rfl
theorem U21 : Try.prog.underlying 21 = some (.int .i32) := by kernel_rfl
theorem U22 : Try.prog.underlying 22 = some (.int .u64) := by kernel_rfl
theorem U24 : Try.prog.underlying 24 = some (.map 9 4) := by kernel_rfl
theorem U25 : Try.prog.underlying 25 = some (.slice 3) := by kernel_rfl
theorem U26 : Try.prog.underlying 26 = some (.slice 22) := by kernel_rfl
theorem U27 : Try.prog.underlying 27 = some (.slice 5) := by kernel_rfl
theorem U29 : Try.prog.underlying 29 = some (.slice 27) := by kernel_rfl
theorem U36 : Try.prog.underlying 36 = some (.int .i64) := by kernel_rfl
theorem U40 : Try.prog.underlying 40 = some (.slice 68) := by kernel_rfl
theorem U41 : Try.prog.underlying 41 = some (.slice 60) := by kernel_rfl
theorem U43 : Try.prog.underlying 43 = some (.slice 56) := by kernel_rfl
theorem U44 : Try.prog.underlying 44 = some (.slice 53) := by kernel_rfl
theorem U47 : Try.prog.underlying 47 = some (.int .u8) := by kernel_rfl
theorem U61 : Try.prog.underlying 61 = some (.slice 43) := by kernel_rfl
theorem U66 : Try.prog.underlying 66 = some (.int .u64) := by kernel_rfl
theorem U80 : Try.prog.underlying 80 = some (.slice 47) := by kernel_rfl
theorem U87 : Try.prog.underlying 87 = some (.array 0 16) := by kernel_rfl
theorem U91 : Try.prog.underlying 91 = some (.int .u32) := by kernel_rfl
theorem U92 : Try.prog.underlying 92 = some (.int .u8) := by kernel_rfl
theorem U93 : Try.prog.underlying 93 = some (.int .u8) := by kernel_rfl
theorem U95 : Try.prog.underlying 95 = some (.pointer 5) := by kernel_rfl
theorem U96 : Try.prog.underlying 96 = some (.int .i32) := by kernel_rfl
theorem U97 : Try.prog.underlying 97 = some (.int .i32) := by kernel_rfl
theorem S25 : SlT Try.prog 25 3 1 8 (Value.int .i64 0) := ⟨U25, by kernel_rfl, rfl, by decide⟩
theorem S26 : SlT Try.prog 26 22 1 8 (Value.int .u64 0) := ⟨U26, by kernel_rfl, rfl, by decide⟩
theorem S27 : SlT Try.prog 27 5 1 1 (Value.int .u8 0) := ⟨U27, by kernel_rfl, rfl, by decide⟩
theorem S29 : SlT Try.prog 29 27 1 24 (Value.slice none 0 0) := ⟨U29, by kernel_rfl, rfl, by decide⟩
theorem S40 : SlT Try.prog 40 68 5 5 (Value.agg #[(Value.int .u8 0), (Value.int .u8 0), (Value.int .u8 0), (Value.bool false), (Value.bool false)]) := ⟨U40, by kernel_rfl, rfl, by decide⟩
theorem S41 : SlT Try.prog 41 60 10 104 (Value.agg #[(Value.int .u8 0), (Value.int .i64 0), (Value.int .u64 0), (Value.int .u64 0), (Value.string ⟨#[]⟩), (Value.int .u64 0), (Value.string ⟨#[]⟩), (Value.string ⟨#[]⟩), (Value.bool false), (Value.int .i64 0)]) := ⟨U41, by kernel_rfl, rfl, by decide⟩
theorem S43 : SlT Try.prog 43 56 7 80 (Value.agg #[(Value.int .i64 0), (Value.int .u64 0), (Value.int .u64 0), (Value.string ⟨#[]⟩), (Value.int .u64 0), (Value.string ⟨#[]⟩), (Value.string ⟨#[]⟩)]) := ⟨U43, by kernel_rfl, rfl, by decide⟩
theorem S44 : SlT Try.prog 44 53 2 16 (Value.agg #[(Value.bool false), (Value.int .i64 0)]) := ⟨U44, by kernel_rfl, rfl, by decide⟩
theorem S61 : SlT Try.prog 61 43 1 24 (Value.slice none 0 0) := ⟨U61, by kernel_rfl, rfl, by decide⟩
theorem S80 : SlT Try.prog 80 47 1 1 (Value.int .u8 0) := ⟨U80, by kernel_rfl, rfl, by decide⟩
end Go.Proofs.Ytaoamokfbhlaaaa.E
