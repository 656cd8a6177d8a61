/- Parts of the proof: rules for an abstract memory, plain laws, and walks through the program. -/
import Derived.Test.YtcncbmpblkgfjaaGreatDoorStatRP0
import Derived.Test.YtcncbmpblkgfjaaGreatDoorProg
import Derived.KernelRfl
import Derived.Test.YtcncbmpblkgfjaaGreatDoorStatRP2
import Derived.Test.YtcncbmpblkgfjaaGreatDoorStatRP1
import Derived.Laws.StructEq
set_option linter.unusedVariables false
set_option linter.unusedSimpArgs false
/-
  WHAT THE PROGRAM's TABLES SAY OF THE TYPES AND FUNCTIONS THAT THE WALKS MEET. Laid by a program of this session's own.
-/
namespace Go.Av
open Go.Proofs
instance ty1 : TyI Tryz.prog 1 false 1 := ⟨by kernel_rfl, by kernel_rfl⟩
instance no1 : NoI Tryz.prog 1 := ⟨by kernel_rfl⟩
instance by1 : ByI Tryz.prog 1 8 := ⟨by kernel_rfl⟩
instance zc1 : ZcI Tryz.prog 1 [.nfn] := ⟨.nilFunc, by kernel_rfl, rfl, rfl⟩
instance ty2 : TyI Tryz.prog 2 false 1 := ⟨by kernel_rfl, by kernel_rfl⟩
instance no2 : NoI Tryz.prog 2 := ⟨by kernel_rfl⟩
instance by2 : ByI Tryz.prog 2 8 := ⟨by kernel_rfl⟩
instance ud2 : UdI Tryz.prog 2 (.int .i64) := ⟨by kernel_rfl⟩
instance zc2 : ZcI Tryz.prog 2 [.int .i64 0] := ⟨.int .i64 0, by kernel_rfl, rfl, rfl⟩
instance ty3 : TyI Tryz.prog 3 false 1 := ⟨by kernel_rfl, by kernel_rfl⟩
instance no3 : NoI Tryz.prog 3 := ⟨by kernel_rfl⟩
instance by3 : ByI Tryz.prog 3 8 := ⟨by kernel_rfl⟩
instance ud3 : UdI Tryz.prog 3 (.int .i64) := ⟨by kernel_rfl⟩
instance zc3 : ZcI Tryz.prog 3 [.int .i64 0] := ⟨.int .i64 0, by kernel_rfl, rfl, rfl⟩
instance ty4 : TyI Tryz.prog 4 false 1 := ⟨by kernel_rfl, by kernel_rfl⟩
instance no4 : NoI Tryz.prog 4 := ⟨by kernel_rfl⟩
instance by4 : ByI Tryz.prog 4 1 := ⟨by kernel_rfl⟩
instance ud4 : UdI Tryz.prog 4 .bool := ⟨by kernel_rfl⟩
instance zc4 : ZcI Tryz.prog 4 [.bool false] := ⟨.bool false, by kernel_rfl, rfl, rfl⟩
instance ty5 : TyI Tryz.prog 5 false 1 := ⟨by kernel_rfl, by kernel_rfl⟩
instance no5 : NoI Tryz.prog 5 := ⟨by kernel_rfl⟩
instance by5 : ByI Tryz.prog 5 1 := ⟨by kernel_rfl⟩
instance ud5 : UdI Tryz.prog 5 (.int .u8) := ⟨by kernel_rfl⟩
instance zc5 : ZcI Tryz.prog 5 [.int .u8 0] := ⟨.int .u8 0, by kernel_rfl, rfl, rfl⟩
instance ty9 : TyI Tryz.prog 9 false 1 := ⟨by kernel_rfl, by kernel_rfl⟩
instance no9 : NoI Tryz.prog 9 := ⟨by kernel_rfl⟩
instance by9 : ByI Tryz.prog 9 16 := ⟨by kernel_rfl⟩
instance ud9 : UdI Tryz.prog 9 .string := ⟨by kernel_rfl⟩
instance ni9 : NiI Tryz.prog 9 := ⟨.inr (by kernel_rfl)⟩
instance zc9 : ZcI Tryz.prog 9 [.str ⟨#[]⟩] := ⟨.string ⟨#[]⟩, by kernel_rfl, rfl, rfl⟩
instance ty12 : TyI Tryz.prog 12 false 1 := ⟨by kernel_rfl, by kernel_rfl⟩
instance no12 : NoI Tryz.prog 12 := ⟨by kernel_rfl⟩
instance by12 : ByI Tryz.prog 12 8 := ⟨by kernel_rfl⟩
instance ud12 : UdI Tryz.prog 12 (.int .u64) := ⟨by kernel_rfl⟩
instance zc12 : ZcI Tryz.prog 12 [.int .u64 0] := ⟨.int .u64 0, by kernel_rfl, rfl, rfl⟩
instance ty13 : TyI Tryz.prog 13 true 2 := ⟨by kernel_rfl, by kernel_rfl⟩
instance no13 : NoI Tryz.prog 13 := ⟨by kernel_rfl⟩
instance by13 : ByI Tryz.prog 13 24 := ⟨by kernel_rfl⟩
instance fl13_0 : FldI Tryz.prog 13 0 0 9 := ⟨by kernel_rfl⟩
instance fl13_1 : FldI Tryz.prog 13 1 1 12 := ⟨by kernel_rfl⟩
instance st13 : StI Tryz.prog 13 [(0, 1), (1, 1)] := ⟨by kernel_rfl⟩
instance zc13 : ZcI Tryz.prog 13 [.str ⟨#[]⟩, .int .u64 0] := ⟨.agg #[.string ⟨#[]⟩, .int .u64 0], by kernel_rfl, rfl, rfl⟩
instance ty20 : TyI Tryz.prog 20 false 1 := ⟨by kernel_rfl, by kernel_rfl⟩
instance by20 : ByI Tryz.prog 20 16 := ⟨by kernel_rfl⟩
instance zc20 : ZcI Tryz.prog 20 [.nifc] := ⟨.nilIface, by kernel_rfl, rfl, rfl⟩
instance ty21 : TyI Tryz.prog 21 false 1 := ⟨by kernel_rfl, by kernel_rfl⟩
instance no21 : NoI Tryz.prog 21 := ⟨by kernel_rfl⟩
instance by21 : ByI Tryz.prog 21 4 := ⟨by kernel_rfl⟩
instance ud21 : UdI Tryz.prog 21 (.int .i32) := ⟨by kernel_rfl⟩
instance zc21 : ZcI Tryz.prog 21 [.int .i32 0] := ⟨.int .i32 0, by kernel_rfl, rfl, rfl⟩
instance ty22 : TyI Tryz.prog 22 false 1 := ⟨by kernel_rfl, by kernel_rfl⟩
instance no22 : NoI Tryz.prog 22 := ⟨by kernel_rfl⟩
instance by22 : ByI Tryz.prog 22 24 := ⟨by kernel_rfl⟩
instance sl22 : SlI Tryz.prog 22 72 := ⟨by kernel_rfl⟩
instance ni22 : NiI Tryz.prog 22 := ⟨.inl ⟨72, by kernel_rfl⟩⟩
instance zc22 : ZcI Tryz.prog 22 [.nsl] := ⟨.slice none 0 0, by kernel_rfl, rfl, rfl⟩
instance ty23 : TyI Tryz.prog 23 false 1 := ⟨by kernel_rfl, by kernel_rfl⟩
instance no23 : NoI Tryz.prog 23 := ⟨by kernel_rfl⟩
instance by23 : ByI Tryz.prog 23 24 := ⟨by kernel_rfl⟩
instance sl23 : SlI Tryz.prog 23 3 := ⟨by kernel_rfl⟩
instance ni23 : NiI Tryz.prog 23 := ⟨.inl ⟨3, by kernel_rfl⟩⟩
instance zc23 : ZcI Tryz.prog 23 [.nsl] := ⟨.slice none 0 0, by kernel_rfl, rfl, rfl⟩
instance ty24 : TyI Tryz.prog 24 false 1 := ⟨by kernel_rfl, by kernel_rfl⟩
instance no24 : NoI Tryz.prog 24 := ⟨by kernel_rfl⟩
instance by24 : ByI Tryz.prog 24 24 := ⟨by kernel_rfl⟩
instance sl24 : SlI Tryz.prog 24 63 := ⟨by kernel_rfl⟩
instance ni24 : NiI Tryz.prog 24 := ⟨.inl ⟨63, by kernel_rfl⟩⟩
instance zc24 : ZcI Tryz.prog 24 [.nsl] := ⟨.slice none 0 0, by kernel_rfl, rfl, rfl⟩
instance ty25 : TyI Tryz.prog 25 false 1 := ⟨by kernel_rfl, by kernel_rfl⟩
instance no25 : NoI Tryz.prog 25 := ⟨by kernel_rfl⟩
instance by25 : ByI Tryz.prog 25 24 := ⟨by kernel_rfl⟩
instance sl25 : SlI Tryz.prog 25 60 := ⟨by kernel_rfl⟩
instance ni25 : NiI Tryz.prog 25 := ⟨.inl ⟨60, by kernel_rfl⟩⟩
instance zc25 : ZcI Tryz.prog 25 [.nsl] := ⟨.slice none 0 0, by kernel_rfl, rfl, rfl⟩
instance ty26 : TyI Tryz.prog 26 true 9 := ⟨by kernel_rfl, by kernel_rfl⟩
instance no26 : NoI Tryz.prog 26 := ⟨by kernel_rfl⟩
instance by26 : ByI Tryz.prog 26 152 := ⟨by kernel_rfl⟩
instance fl26_0 : FldI Tryz.prog 26 0 0 22 := ⟨by kernel_rfl⟩
instance fl26_1 : FldI Tryz.prog 26 1 1 23 := ⟨by kernel_rfl⟩
instance fl26_2 : FldI Tryz.prog 26 2 2 23 := ⟨by kernel_rfl⟩
instance fl26_3 : FldI Tryz.prog 26 3 3 2 := ⟨by kernel_rfl⟩
instance fl26_4 : FldI Tryz.prog 26 4 4 24 := ⟨by kernel_rfl⟩
instance fl26_5 : FldI Tryz.prog 26 5 5 25 := ⟨by kernel_rfl⟩
instance fl26_6 : FldI Tryz.prog 26 6 6 2 := ⟨by kernel_rfl⟩
instance fl26_7 : FldI Tryz.prog 26 7 7 3 := ⟨by kernel_rfl⟩
instance fl26_8 : FldI Tryz.prog 26 8 8 3 := ⟨by kernel_rfl⟩
instance st26 : StI Tryz.prog 26 [(0, 1), (1, 1), (2, 1), (3, 1), (4, 1), (5, 1), (6, 1), (7, 1), (8, 1)] := ⟨by kernel_rfl⟩
instance zc26 : ZcI Tryz.prog 26 [.nsl, .nsl, .nsl, .int .i64 0, .nsl, .nsl, .int .i64 0, .int .i64 0, .int .i64 0] := ⟨.agg #[.slice none 0 0, .slice none 0 0, .slice none 0 0, .int .i64 0, .slice none 0 0, .slice none 0 0, .int .i64 0, .int .i64 0, .int .i64 0], by kernel_rfl, rfl, rfl⟩
instance ty27 : TyI Tryz.prog 27 true 9 := ⟨by kernel_rfl, by kernel_rfl⟩
instance no27 : NoI Tryz.prog 27 := ⟨by kernel_rfl⟩
instance by27 : ByI Tryz.prog 27 152 := ⟨by kernel_rfl⟩
instance fl27_0 : FldI Tryz.prog 27 0 0 22 := ⟨by kernel_rfl⟩
instance fl27_1 : FldI Tryz.prog 27 1 1 23 := ⟨by kernel_rfl⟩
instance fl27_2 : FldI Tryz.prog 27 2 2 23 := ⟨by kernel_rfl⟩
instance fl27_3 : FldI Tryz.prog 27 3 3 2 := ⟨by kernel_rfl⟩
instance fl27_4 : FldI Tryz.prog 27 4 4 24 := ⟨by kernel_rfl⟩
instance fl27_5 : FldI Tryz.prog 27 5 5 25 := ⟨by kernel_rfl⟩
instance fl27_6 : FldI Tryz.prog 27 6 6 2 := ⟨by kernel_rfl⟩
instance fl27_7 : FldI Tryz.prog 27 7 7 3 := ⟨by kernel_rfl⟩
instance fl27_8 : FldI Tryz.prog 27 8 8 3 := ⟨by kernel_rfl⟩
instance st27 : StI Tryz.prog 27 [(0, 1), (1, 1), (2, 1), (3, 1), (4, 1), (5, 1), (6, 1), (7, 1), (8, 1)] := ⟨by kernel_rfl⟩
instance zc27 : ZcI Tryz.prog 27 [.nsl, .nsl, .nsl, .int .i64 0, .nsl, .nsl, .int .i64 0, .int .i64 0, .int .i64 0] := ⟨.agg #[.slice none 0 0, .slice none 0 0, .slice none 0 0, .int .i64 0, .slice none 0 0, .slice none 0 0, .int .i64 0, .int .i64 0, .int .i64 0], by kernel_rfl, rfl, rfl⟩
instance ty28 : TyI Tryz.prog 28 true 5 := ⟨by kernel_rfl, by kernel_rfl⟩
instance no28 : NoI Tryz.prog 28 := ⟨by kernel_rfl⟩
instance by28 : ByI Tryz.prog 28 40 := ⟨by kernel_rfl⟩
instance ar28 : ArI Tryz.prog 28 5 3 := ⟨by kernel_rfl⟩
instance zc28 : ZcI Tryz.prog 28 [.int .i64 0, .int .i64 0, .int .i64 0, .int .i64 0, .int .i64 0] := ⟨.agg #[.int .i64 0, .int .i64 0, .int .i64 0, .int .i64 0, .int .i64 0], by kernel_rfl, rfl, rfl⟩
instance ty29 : TyI Tryz.prog 29 true 7 := ⟨by kernel_rfl, by kernel_rfl⟩
instance no29 : NoI Tryz.prog 29 := ⟨by kernel_rfl⟩
instance by29 : ByI Tryz.prog 29 56 := ⟨by kernel_rfl⟩
instance ar29 : ArI Tryz.prog 29 7 3 := ⟨by kernel_rfl⟩
instance zc29 : ZcI Tryz.prog 29 [.int .i64 0, .int .i64 0, .int .i64 0, .int .i64 0, .int .i64 0, .int .i64 0, .int .i64 0] := ⟨.agg #[.int .i64 0, .int .i64 0, .int .i64 0, .int .i64 0, .int .i64 0, .int .i64 0, .int .i64 0], by kernel_rfl, rfl, rfl⟩
instance ty30 : TyI Tryz.prog 30 true 27 := ⟨by kernel_rfl, by kernel_rfl⟩
instance no30 : NoI Tryz.prog 30 := ⟨by kernel_rfl⟩
instance by30 : ByI Tryz.prog 30 216 := ⟨by kernel_rfl⟩
instance fl30_0 : FldI Tryz.prog 30 0 0 28 := ⟨by kernel_rfl⟩
instance fl30_1 : FldI Tryz.prog 30 1 5 28 := ⟨by kernel_rfl⟩
instance fl30_2 : FldI Tryz.prog 30 2 10 28 := ⟨by kernel_rfl⟩
instance fl30_3 : FldI Tryz.prog 30 3 15 28 := ⟨by kernel_rfl⟩
instance fl30_4 : FldI Tryz.prog 30 4 20 29 := ⟨by kernel_rfl⟩
instance st30 : StI Tryz.prog 30 [(0, 5), (5, 5), (10, 5), (15, 5), (20, 7)] := ⟨by kernel_rfl⟩
instance zc30 : ZcI Tryz.prog 30 [.int .i64 0, .int .i64 0, .int .i64 0, .int .i64 0, .int .i64 0, .int .i64 0, .int .i64 0, .int .i64 0, .int .i64 0, .int .i64 0, .int .i64 0, .int .i64 0, .int .i64 0, .int .i64 0, .int .i64 0, .int .i64 0, .int .i64 0, .int .i64 0, .int .i64 0, .int .i64 0, .int .i64 0, .int .i64 0, .int .i64 0, .int .i64 0, .int .i64 0, .int .i64 0, .int .i64 0] := ⟨.agg #[.int .i64 0, .int .i64 0, .int .i64 0, .int .i64 0, .int .i64 0, .int .i64 0, .int .i64 0, .int .i64 0, .int .i64 0, .int .i64 0, .int .i64 0, .int .i64 0, .int .i64 0, .int .i64 0, .int .i64 0, .int .i64 0, .int .i64 0, .int .i64 0, .int .i64 0, .int .i64 0, .int .i64 0, .int .i64 0, .int .i64 0, .int .i64 0, .int .i64 0, .int .i64 0, .int .i64 0], by kernel_rfl, rfl, rfl⟩
instance ty31 : TyI Tryz.prog 31 true 27 := ⟨by kernel_rfl, by kernel_rfl⟩
instance no31 : NoI Tryz.prog 31 := ⟨by kernel_rfl⟩
instance by31 : ByI Tryz.prog 31 216 := ⟨by kernel_rfl⟩
instance fl31_0 : FldI Tryz.prog 31 0 0 28 := ⟨by kernel_rfl⟩
instance fl31_1 : FldI Tryz.prog 31 1 5 28 := ⟨by kernel_rfl⟩
instance fl31_2 : FldI Tryz.prog 31 2 10 28 := ⟨by kernel_rfl⟩
instance fl31_3 : FldI Tryz.prog 31 3 15 28 := ⟨by kernel_rfl⟩
instance fl31_4 : FldI Tryz.prog 31 4 20 29 := ⟨by kernel_rfl⟩
instance st31 : StI Tryz.prog 31 [(0, 5), (5, 5), (10, 5), (15, 5), (20, 7)] := ⟨by kernel_rfl⟩
instance zc31 : ZcI Tryz.prog 31 [.int .i64 0, .int .i64 0, .int .i64 0, .int .i64 0, .int .i64 0, .int .i64 0, .int .i64 0, .int .i64 0, .int .i64 0, .int .i64 0, .int .i64 0, .int .i64 0, .int .i64 0, .int .i64 0, .int .i64 0, .int .i64 0, .int .i64 0, .int .i64 0, .int .i64 0, .int .i64 0, .int .i64 0, .int .i64 0, .int .i64 0, .int .i64 0, .int .i64 0, .int .i64 0, .int .i64 0] := ⟨.agg #[.int .i64 0, .int .i64 0, .int .i64 0, .int .i64 0, .int .i64 0, .int .i64 0, .int .i64 0, .int .i64 0, .int .i64 0, .int .i64 0, .int .i64 0, .int .i64 0, .int .i64 0, .int .i64 0, .int .i64 0, .int .i64 0, .int .i64 0, .int .i64 0, .int .i64 0, .int .i64 0, .int .i64 0, .int .i64 0, .int .i64 0, .int .i64 0, .int .i64 0, .int .i64 0, .int .i64 0], by kernel_rfl, rfl, rfl⟩
instance ty32 : TyI Tryz.prog 32 false 1 := ⟨by kernel_rfl, by kernel_rfl⟩
instance no32 : NoI Tryz.prog 32 := ⟨by kernel_rfl⟩
instance by32 : ByI Tryz.prog 32 8 := ⟨by kernel_rfl⟩
instance zc32 : ZcI Tryz.prog 32 [.nfn] := ⟨.nilFunc, by kernel_rfl, rfl, rfl⟩
instance ty33 : TyI Tryz.prog 33 false 1 := ⟨by kernel_rfl, by kernel_rfl⟩
instance no33 : NoI Tryz.prog 33 := ⟨by kernel_rfl⟩
instance by33 : ByI Tryz.prog 33 8 := ⟨by kernel_rfl⟩
instance zc33 : ZcI Tryz.prog 33 [.nfn] := ⟨.nilFunc, by kernel_rfl, rfl, rfl⟩
instance ty34 : TyI Tryz.prog 34 false 1 := ⟨by kernel_rfl, by kernel_rfl⟩
instance no34 : NoI Tryz.prog 34 := ⟨by kernel_rfl⟩
instance by34 : ByI Tryz.prog 34 8 := ⟨by kernel_rfl⟩
instance zc34 : ZcI Tryz.prog 34 [.nfn] := ⟨.nilFunc, by kernel_rfl, rfl, rfl⟩
instance ty35 : TyI Tryz.prog 35 false 1 := ⟨by kernel_rfl, by kernel_rfl⟩
instance no35 : NoI Tryz.prog 35 := ⟨by kernel_rfl⟩
instance by35 : ByI Tryz.prog 35 8 := ⟨by kernel_rfl⟩
instance zc35 : ZcI Tryz.prog 35 [.nfn] := ⟨.nilFunc, by kernel_rfl, rfl, rfl⟩
instance ty36 : TyI Tryz.prog 36 false 1 := ⟨by kernel_rfl, by kernel_rfl⟩
instance no36 : NoI Tryz.prog 36 := ⟨by kernel_rfl⟩
instance by36 : ByI Tryz.prog 36 8 := ⟨by kernel_rfl⟩
instance zc36 : ZcI Tryz.prog 36 [.nfn] := ⟨.nilFunc, by kernel_rfl, rfl, rfl⟩
instance ty37 : TyI Tryz.prog 37 false 1 := ⟨by kernel_rfl, by kernel_rfl⟩
instance no37 : NoI Tryz.prog 37 := ⟨by kernel_rfl⟩
instance by37 : ByI Tryz.prog 37 8 := ⟨by kernel_rfl⟩
instance zc37 : ZcI Tryz.prog 37 [.nfn] := ⟨.nilFunc, by kernel_rfl, rfl, rfl⟩
instance ty38 : TyI Tryz.prog 38 false 1 := ⟨by kernel_rfl, by kernel_rfl⟩
instance no38 : NoI Tryz.prog 38 := ⟨by kernel_rfl⟩
instance by38 : ByI Tryz.prog 38 8 := ⟨by kernel_rfl⟩
instance zc38 : ZcI Tryz.prog 38 [.nfn] := ⟨.nilFunc, by kernel_rfl, rfl, rfl⟩
instance ty39 : TyI Tryz.prog 39 false 1 := ⟨by kernel_rfl, by kernel_rfl⟩
instance no39 : NoI Tryz.prog 39 := ⟨by kernel_rfl⟩
instance by39 : ByI Tryz.prog 39 24 := ⟨by kernel_rfl⟩
instance sl39 : SlI Tryz.prog 39 52 := ⟨by kernel_rfl⟩
instance ni39 : NiI Tryz.prog 39 := ⟨.inl ⟨52, by kernel_rfl⟩⟩
instance zc39 : ZcI Tryz.prog 39 [.nsl] := ⟨.slice none 0 0, by kernel_rfl, rfl, rfl⟩
instance ty40 : TyI Tryz.prog 40 false 1 := ⟨by kernel_rfl, by kernel_rfl⟩
instance no40 : NoI Tryz.prog 40 := ⟨by kernel_rfl⟩
instance by40 : ByI Tryz.prog 40 8 := ⟨by kernel_rfl⟩
instance zc40 : ZcI Tryz.prog 40 [.nfn] := ⟨.nilFunc, by kernel_rfl, rfl, rfl⟩
instance ty41 : TyI Tryz.prog 41 false 1 := ⟨by kernel_rfl, by kernel_rfl⟩
instance no41 : NoI Tryz.prog 41 := ⟨by kernel_rfl⟩
instance by41 : ByI Tryz.prog 41 8 := ⟨by kernel_rfl⟩
instance ud41 : UdI Tryz.prog 41 (.int .i64) := ⟨by kernel_rfl⟩
instance zc41 : ZcI Tryz.prog 41 [.int .i64 0] := ⟨.int .i64 0, by kernel_rfl, rfl, rfl⟩
instance ty43 : TyI Tryz.prog 43 false 1 := ⟨by kernel_rfl, by kernel_rfl⟩
instance no43 : NoI Tryz.prog 43 := ⟨by kernel_rfl⟩
instance by43 : ByI Tryz.prog 43 8 := ⟨by kernel_rfl⟩
instance zc43 : ZcI Tryz.prog 43 [.nfn] := ⟨.nilFunc, by kernel_rfl, rfl, rfl⟩
instance ty45 : TyI Tryz.prog 45 false 1 := ⟨by kernel_rfl, by kernel_rfl⟩
instance no45 : NoI Tryz.prog 45 := ⟨by kernel_rfl⟩
instance by45 : ByI Tryz.prog 45 8 := ⟨by kernel_rfl⟩
instance zc45 : ZcI Tryz.prog 45 [.nfn] := ⟨.nilFunc, by kernel_rfl, rfl, rfl⟩
instance ty46 : TyI Tryz.prog 46 false 1 := ⟨by kernel_rfl, by kernel_rfl⟩
instance no46 : NoI Tryz.prog 46 := ⟨by kernel_rfl⟩
instance by46 : ByI Tryz.prog 46 8 := ⟨by kernel_rfl⟩
instance zc46 : ZcI Tryz.prog 46 [.nfn] := ⟨.nilFunc, by kernel_rfl, rfl, rfl⟩
instance ty48 : TyI Tryz.prog 48 false 1 := ⟨by kernel_rfl, by kernel_rfl⟩
instance no48 : NoI Tryz.prog 48 := ⟨by kernel_rfl⟩
instance by48 : ByI Tryz.prog 48 8 := ⟨by kernel_rfl⟩
instance zc48 : ZcI Tryz.prog 48 [.nfn] := ⟨.nilFunc, by kernel_rfl, rfl, rfl⟩
instance ty49 : TyI Tryz.prog 49 true 7 := ⟨by kernel_rfl, by kernel_rfl⟩
instance no49 : NoI Tryz.prog 49 := ⟨by kernel_rfl⟩
instance by49 : ByI Tryz.prog 49 64 := ⟨by kernel_rfl⟩
instance fl49_0 : FldI Tryz.prog 49 0 0 3 := ⟨by kernel_rfl⟩
instance fl49_1 : FldI Tryz.prog 49 1 1 3 := ⟨by kernel_rfl⟩
instance fl49_2 : FldI Tryz.prog 49 2 2 3 := ⟨by kernel_rfl⟩
instance fl49_3 : FldI Tryz.prog 49 3 3 9 := ⟨by kernel_rfl⟩
instance fl49_4 : FldI Tryz.prog 49 4 4 4 := ⟨by kernel_rfl⟩
instance fl49_5 : FldI Tryz.prog 49 5 5 2 := ⟨by kernel_rfl⟩
instance fl49_6 : FldI Tryz.prog 49 6 6 3 := ⟨by kernel_rfl⟩
instance st49 : StI Tryz.prog 49 [(0, 1), (1, 1), (2, 1), (3, 1), (4, 1), (5, 1), (6, 1)] := ⟨by kernel_rfl⟩
instance zc49 : ZcI Tryz.prog 49 [.int .i64 0, .int .i64 0, .int .i64 0, .str ⟨#[]⟩, .bool false, .int .i64 0, .int .i64 0] := ⟨.agg #[.int .i64 0, .int .i64 0, .int .i64 0, .string ⟨#[]⟩, .bool false, .int .i64 0, .int .i64 0], by kernel_rfl, rfl, rfl⟩
instance ty50 : TyI Tryz.prog 50 true 7 := ⟨by kernel_rfl, by kernel_rfl⟩
instance no50 : NoI Tryz.prog 50 := ⟨by kernel_rfl⟩
instance by50 : ByI Tryz.prog 50 64 := ⟨by kernel_rfl⟩
instance fl50_0 : FldI Tryz.prog 50 0 0 3 := ⟨by kernel_rfl⟩
instance fl50_1 : FldI Tryz.prog 50 1 1 3 := ⟨by kernel_rfl⟩
instance fl50_2 : FldI Tryz.prog 50 2 2 3 := ⟨by kernel_rfl⟩
instance fl50_3 : FldI Tryz.prog 50 3 3 9 := ⟨by kernel_rfl⟩
instance fl50_4 : FldI Tryz.prog 50 4 4 4 := ⟨by kernel_rfl⟩
instance fl50_5 : FldI Tryz.prog 50 5 5 2 := ⟨by kernel_rfl⟩
instance fl50_6 : FldI Tryz.prog 50 6 6 3 := ⟨by kernel_rfl⟩
instance st50 : StI Tryz.prog 50 [(0, 1), (1, 1), (2, 1), (3, 1), (4, 1), (5, 1), (6, 1)] := ⟨by kernel_rfl⟩
instance zc50 : ZcI Tryz.prog 50 [.int .i64 0, .int .i64 0, .int .i64 0, .str ⟨#[]⟩, .bool false, .int .i64 0, .int .i64 0] := ⟨.agg #[.int .i64 0, .int .i64 0, .int .i64 0, .string ⟨#[]⟩, .bool false, .int .i64 0, .int .i64 0], by kernel_rfl, rfl, rfl⟩
instance ty51 : TyI Tryz.prog 51 true 13 := ⟨by kernel_rfl, by kernel_rfl⟩
instance no51 : NoI Tryz.prog 51 := ⟨by kernel_rfl⟩
instance by51 : ByI Tryz.prog 51 144 := ⟨by kernel_rfl⟩
instance fl51_0 : FldI Tryz.prog 51 0 0 3 := ⟨by kernel_rfl⟩
instance fl51_1 : FldI Tryz.prog 51 1 1 50 := ⟨by kernel_rfl⟩
instance fl51_2 : FldI Tryz.prog 51 2 8 23 := ⟨by kernel_rfl⟩
instance fl51_3 : FldI Tryz.prog 51 3 9 3 := ⟨by kernel_rfl⟩
instance fl51_4 : FldI Tryz.prog 51 4 10 3 := ⟨by kernel_rfl⟩
instance fl51_5 : FldI Tryz.prog 51 5 11 2 := ⟨by kernel_rfl⟩
instance fl51_6 : FldI Tryz.prog 51 6 12 23 := ⟨by kernel_rfl⟩
instance st51 : StI Tryz.prog 51 [(0, 1), (1, 7), (8, 1), (9, 1), (10, 1), (11, 1), (12, 1)] := ⟨by kernel_rfl⟩
instance zc51 : ZcI Tryz.prog 51 [.int .i64 0, .int .i64 0, .int .i64 0, .int .i64 0, .str ⟨#[]⟩, .bool false, .int .i64 0, .int .i64 0, .nsl, .int .i64 0, .int .i64 0, .int .i64 0, .nsl] := ⟨.agg #[.int .i64 0, .int .i64 0, .int .i64 0, .int .i64 0, .string ⟨#[]⟩, .bool false, .int .i64 0, .int .i64 0, .slice none 0 0, .int .i64 0, .int .i64 0, .int .i64 0, .slice none 0 0], by kernel_rfl, rfl, rfl⟩
instance ty52 : TyI Tryz.prog 52 true 13 := ⟨by kernel_rfl, by kernel_rfl⟩
instance no52 : NoI Tryz.prog 52 := ⟨by kernel_rfl⟩
instance by52 : ByI Tryz.prog 52 144 := ⟨by kernel_rfl⟩
instance fl52_0 : FldI Tryz.prog 52 0 0 3 := ⟨by kernel_rfl⟩
instance fl52_1 : FldI Tryz.prog 52 1 1 50 := ⟨by kernel_rfl⟩
instance fl52_2 : FldI Tryz.prog 52 2 8 23 := ⟨by kernel_rfl⟩
instance fl52_3 : FldI Tryz.prog 52 3 9 3 := ⟨by kernel_rfl⟩
instance fl52_4 : FldI Tryz.prog 52 4 10 3 := ⟨by kernel_rfl⟩
instance fl52_5 : FldI Tryz.prog 52 5 11 2 := ⟨by kernel_rfl⟩
instance fl52_6 : FldI Tryz.prog 52 6 12 23 := ⟨by kernel_rfl⟩
instance st52 : StI Tryz.prog 52 [(0, 1), (1, 7), (8, 1), (9, 1), (10, 1), (11, 1), (12, 1)] := ⟨by kernel_rfl⟩
instance zc52 : ZcI Tryz.prog 52 [.int .i64 0, .int .i64 0, .int .i64 0, .int .i64 0, .str ⟨#[]⟩, .bool false, .int .i64 0, .int .i64 0, .nsl, .int .i64 0, .int .i64 0, .int .i64 0, .nsl] := ⟨.agg #[.int .i64 0, .int .i64 0, .int .i64 0, .int .i64 0, .string ⟨#[]⟩, .bool false, .int .i64 0, .int .i64 0, .slice none 0 0, .int .i64 0, .int .i64 0, .int .i64 0, .slice none 0 0], by kernel_rfl, rfl, rfl⟩
instance ty54 : TyI Tryz.prog 54 false 1 := ⟨by kernel_rfl, by kernel_rfl⟩
instance no54 : NoI Tryz.prog 54 := ⟨by kernel_rfl⟩
instance by54 : ByI Tryz.prog 54 8 := ⟨by kernel_rfl⟩
instance zc54 : ZcI Tryz.prog 54 [.nfn] := ⟨.nilFunc, by kernel_rfl, rfl, rfl⟩
instance ty55 : TyI Tryz.prog 55 false 1 := ⟨by kernel_rfl, by kernel_rfl⟩
instance no55 : NoI Tryz.prog 55 := ⟨by kernel_rfl⟩
instance by55 : ByI Tryz.prog 55 8 := ⟨by kernel_rfl⟩
instance zc55 : ZcI Tryz.prog 55 [.nfn] := ⟨.nilFunc, by kernel_rfl, rfl, rfl⟩
instance ty56 : TyI Tryz.prog 56 false 1 := ⟨by kernel_rfl, by kernel_rfl⟩
instance no56 : NoI Tryz.prog 56 := ⟨by kernel_rfl⟩
instance by56 : ByI Tryz.prog 56 8 := ⟨by kernel_rfl⟩
instance zc56 : ZcI Tryz.prog 56 [.nfn] := ⟨.nilFunc, by kernel_rfl, rfl, rfl⟩
instance ty57 : TyI Tryz.prog 57 false 1 := ⟨by kernel_rfl, by kernel_rfl⟩
instance no57 : NoI Tryz.prog 57 := ⟨by kernel_rfl⟩
instance by57 : ByI Tryz.prog 57 8 := ⟨by kernel_rfl⟩
instance zc57 : ZcI Tryz.prog 57 [.nfn] := ⟨.nilFunc, by kernel_rfl, rfl, rfl⟩
instance ty58 : TyI Tryz.prog 58 false 1 := ⟨by kernel_rfl, by kernel_rfl⟩
instance no58 : NoI Tryz.prog 58 := ⟨by kernel_rfl⟩
instance by58 : ByI Tryz.prog 58 8 := ⟨by kernel_rfl⟩
instance zc58 : ZcI Tryz.prog 58 [.nfn] := ⟨.nilFunc, by kernel_rfl, rfl, rfl⟩
instance ty59 : TyI Tryz.prog 59 true 4 := ⟨by kernel_rfl, by kernel_rfl⟩
instance no59 : NoI Tryz.prog 59 := ⟨by kernel_rfl⟩
instance by59 : ByI Tryz.prog 59 48 := ⟨by kernel_rfl⟩
instance fl59_0 : FldI Tryz.prog 59 0 0 3 := ⟨by kernel_rfl⟩
instance fl59_1 : FldI Tryz.prog 59 1 1 23 := ⟨by kernel_rfl⟩
instance fl59_2 : FldI Tryz.prog 59 2 2 2 := ⟨by kernel_rfl⟩
instance fl59_3 : FldI Tryz.prog 59 3 3 2 := ⟨by kernel_rfl⟩
instance st59 : StI Tryz.prog 59 [(0, 1), (1, 1), (2, 1), (3, 1)] := ⟨by kernel_rfl⟩
instance zc59 : ZcI Tryz.prog 59 [.int .i64 0, .nsl, .int .i64 0, .int .i64 0] := ⟨.agg #[.int .i64 0, .slice none 0 0, .int .i64 0, .int .i64 0], by kernel_rfl, rfl, rfl⟩
instance ty60 : TyI Tryz.prog 60 true 4 := ⟨by kernel_rfl, by kernel_rfl⟩
instance no60 : NoI Tryz.prog 60 := ⟨by kernel_rfl⟩
instance by60 : ByI Tryz.prog 60 48 := ⟨by kernel_rfl⟩
instance fl60_0 : FldI Tryz.prog 60 0 0 3 := ⟨by kernel_rfl⟩
instance fl60_1 : FldI Tryz.prog 60 1 1 23 := ⟨by kernel_rfl⟩
instance fl60_2 : FldI Tryz.prog 60 2 2 2 := ⟨by kernel_rfl⟩
instance fl60_3 : FldI Tryz.prog 60 3 3 2 := ⟨by kernel_rfl⟩
instance st60 : StI Tryz.prog 60 [(0, 1), (1, 1), (2, 1), (3, 1)] := ⟨by kernel_rfl⟩
instance zc60 : ZcI Tryz.prog 60 [.int .i64 0, .nsl, .int .i64 0, .int .i64 0] := ⟨.agg #[.int .i64 0, .slice none 0 0, .int .i64 0, .int .i64 0], by kernel_rfl, rfl, rfl⟩
instance ty61 : TyI Tryz.prog 61 false 1 := ⟨by kernel_rfl, by kernel_rfl⟩
instance no61 : NoI Tryz.prog 61 := ⟨by kernel_rfl⟩
instance by61 : ByI Tryz.prog 61 8 := ⟨by kernel_rfl⟩
instance zc61 : ZcI Tryz.prog 61 [.nfn] := ⟨.nilFunc, by kernel_rfl, rfl, rfl⟩
instance ty62 : TyI Tryz.prog 62 true 13 := ⟨by kernel_rfl, by kernel_rfl⟩
instance no62 : NoI Tryz.prog 62 := ⟨by kernel_rfl⟩
instance by62 : ByI Tryz.prog 62 128 := ⟨by kernel_rfl⟩
instance fl62_0 : FldI Tryz.prog 62 0 0 3 := ⟨by kernel_rfl⟩
instance fl62_1 : FldI Tryz.prog 62 1 1 50 := ⟨by kernel_rfl⟩
instance fl62_2 : FldI Tryz.prog 62 2 8 23 := ⟨by kernel_rfl⟩
instance fl62_3 : FldI Tryz.prog 62 3 9 3 := ⟨by kernel_rfl⟩
instance fl62_4 : FldI Tryz.prog 62 4 10 2 := ⟨by kernel_rfl⟩
instance fl62_5 : FldI Tryz.prog 62 5 11 2 := ⟨by kernel_rfl⟩
instance fl62_6 : FldI Tryz.prog 62 6 12 2 := ⟨by kernel_rfl⟩
instance st62 : StI Tryz.prog 62 [(0, 1), (1, 7), (8, 1), (9, 1), (10, 1), (11, 1), (12, 1)] := ⟨by kernel_rfl⟩
instance zc62 : ZcI Tryz.prog 62 [.int .i64 0, .int .i64 0, .int .i64 0, .int .i64 0, .str ⟨#[]⟩, .bool false, .int .i64 0, .int .i64 0, .nsl, .int .i64 0, .int .i64 0, .int .i64 0, .int .i64 0] := ⟨.agg #[.int .i64 0, .int .i64 0, .int .i64 0, .int .i64 0, .string ⟨#[]⟩, .bool false, .int .i64 0, .int .i64 0, .slice none 0 0, .int .i64 0, .int .i64 0, .int .i64 0, .int .i64 0], by kernel_rfl, rfl, rfl⟩
instance ty63 : TyI Tryz.prog 63 true 13 := ⟨by kernel_rfl, by kernel_rfl⟩
instance no63 : NoI Tryz.prog 63 := ⟨by kernel_rfl⟩
instance by63 : ByI Tryz.prog 63 128 := ⟨by kernel_rfl⟩
instance fl63_0 : FldI Tryz.prog 63 0 0 3 := ⟨by kernel_rfl⟩
instance fl63_1 : FldI Tryz.prog 63 1 1 50 := ⟨by kernel_rfl⟩
instance fl63_2 : FldI Tryz.prog 63 2 8 23 := ⟨by kernel_rfl⟩
instance fl63_3 : FldI Tryz.prog 63 3 9 3 := ⟨by kernel_rfl⟩
instance fl63_4 : FldI Tryz.prog 63 4 10 2 := ⟨by kernel_rfl⟩
instance fl63_5 : FldI Tryz.prog 63 5 11 2 := ⟨by kernel_rfl⟩
instance fl63_6 : FldI Tryz.prog 63 6 12 2 := ⟨by kernel_rfl⟩
instance st63 : StI Tryz.prog 63 [(0, 1), (1, 7), (8, 1), (9, 1), (10, 1), (11, 1), (12, 1)] := ⟨by kernel_rfl⟩
instance zc63 : ZcI Tryz.prog 63 [.int .i64 0, .int .i64 0, .int .i64 0, .int .i64 0, .str ⟨#[]⟩, .bool false, .int .i64 0, .int .i64 0, .nsl, .int .i64 0, .int .i64 0, .int .i64 0, .int .i64 0] := ⟨.agg #[.int .i64 0, .int .i64 0, .int .i64 0, .int .i64 0, .string ⟨#[]⟩, .bool false, .int .i64 0, .int .i64 0, .slice none 0 0, .int .i64 0, .int .i64 0, .int .i64 0, .int .i64 0], by kernel_rfl, rfl, rfl⟩
instance ty65 : TyI Tryz.prog 65 false 1 := ⟨by kernel_rfl, by kernel_rfl⟩
instance no65 : NoI Tryz.prog 65 := ⟨by kernel_rfl⟩
instance by65 : ByI Tryz.prog 65 8 := ⟨by kernel_rfl⟩
instance zc65 : ZcI Tryz.prog 65 [.nfn] := ⟨.nilFunc, by kernel_rfl, rfl, rfl⟩
instance ty66 : TyI Tryz.prog 66 false 1 := ⟨by kernel_rfl, by kernel_rfl⟩
instance no66 : NoI Tryz.prog 66 := ⟨by kernel_rfl⟩
instance by66 : ByI Tryz.prog 66 8 := ⟨by kernel_rfl⟩
instance zc66 : ZcI Tryz.prog 66 [.nfn] := ⟨.nilFunc, by kernel_rfl, rfl, rfl⟩
instance ty67 : TyI Tryz.prog 67 false 1 := ⟨by kernel_rfl, by kernel_rfl⟩
instance no67 : NoI Tryz.prog 67 := ⟨by kernel_rfl⟩
instance by67 : ByI Tryz.prog 67 8 := ⟨by kernel_rfl⟩
instance zc67 : ZcI Tryz.prog 67 [.nfn] := ⟨.nilFunc, by kernel_rfl, rfl, rfl⟩
instance ty68 : TyI Tryz.prog 68 false 1 := ⟨by kernel_rfl, by kernel_rfl⟩
instance no68 : NoI Tryz.prog 68 := ⟨by kernel_rfl⟩
instance by68 : ByI Tryz.prog 68 8 := ⟨by kernel_rfl⟩
instance zc68 : ZcI Tryz.prog 68 [.nfn] := ⟨.nilFunc, by kernel_rfl, rfl, rfl⟩
instance ty69 : TyI Tryz.prog 69 false 1 := ⟨by kernel_rfl, by kernel_rfl⟩
instance no69 : NoI Tryz.prog 69 := ⟨by kernel_rfl⟩
instance by69 : ByI Tryz.prog 69 8 := ⟨by kernel_rfl⟩
instance zc69 : ZcI Tryz.prog 69 [.nfn] := ⟨.nilFunc, by kernel_rfl, rfl, rfl⟩
instance ty70 : TyI Tryz.prog 70 false 1 := ⟨by kernel_rfl, by kernel_rfl⟩
instance no70 : NoI Tryz.prog 70 := ⟨by kernel_rfl⟩
instance by70 : ByI Tryz.prog 70 8 := ⟨by kernel_rfl⟩
instance zc70 : ZcI Tryz.prog 70 [.nfn] := ⟨.nilFunc, by kernel_rfl, rfl, rfl⟩
instance ty71 : TyI Tryz.prog 71 true 3 := ⟨by kernel_rfl, by kernel_rfl⟩
instance no71 : NoI Tryz.prog 71 := ⟨by kernel_rfl⟩
instance by71 : ByI Tryz.prog 71 32 := ⟨by kernel_rfl⟩
instance fl71_0 : FldI Tryz.prog 71 0 0 3 := ⟨by kernel_rfl⟩
instance fl71_1 : FldI Tryz.prog 71 1 1 3 := ⟨by kernel_rfl⟩
instance fl71_2 : FldI Tryz.prog 71 2 2 9 := ⟨by kernel_rfl⟩
instance st71 : StI Tryz.prog 71 [(0, 1), (1, 1), (2, 1)] := ⟨by kernel_rfl⟩
instance zc71 : ZcI Tryz.prog 71 [.int .i64 0, .int .i64 0, .str ⟨#[]⟩] := ⟨.agg #[.int .i64 0, .int .i64 0, .string ⟨#[]⟩], by kernel_rfl, rfl, rfl⟩
instance ty72 : TyI Tryz.prog 72 true 3 := ⟨by kernel_rfl, by kernel_rfl⟩
instance no72 : NoI Tryz.prog 72 := ⟨by kernel_rfl⟩
instance by72 : ByI Tryz.prog 72 32 := ⟨by kernel_rfl⟩
instance fl72_0 : FldI Tryz.prog 72 0 0 3 := ⟨by kernel_rfl⟩
instance fl72_1 : FldI Tryz.prog 72 1 1 3 := ⟨by kernel_rfl⟩
instance fl72_2 : FldI Tryz.prog 72 2 2 9 := ⟨by kernel_rfl⟩
instance st72 : StI Tryz.prog 72 [(0, 1), (1, 1), (2, 1)] := ⟨by kernel_rfl⟩
instance zc72 : ZcI Tryz.prog 72 [.int .i64 0, .int .i64 0, .str ⟨#[]⟩] := ⟨.agg #[.int .i64 0, .int .i64 0, .string ⟨#[]⟩], by kernel_rfl, rfl, rfl⟩
instance ty73 : TyI Tryz.prog 73 false 1 := ⟨by kernel_rfl, by kernel_rfl⟩
instance no73 : NoI Tryz.prog 73 := ⟨by kernel_rfl⟩
instance by73 : ByI Tryz.prog 73 8 := ⟨by kernel_rfl⟩
instance zc73 : ZcI Tryz.prog 73 [.nfn] := ⟨.nilFunc, by kernel_rfl, rfl, rfl⟩
instance ty74 : TyI Tryz.prog 74 false 1 := ⟨by kernel_rfl, by kernel_rfl⟩
instance no74 : NoI Tryz.prog 74 := ⟨by kernel_rfl⟩
instance by74 : ByI Tryz.prog 74 8 := ⟨by kernel_rfl⟩
instance zc74 : ZcI Tryz.prog 74 [.nfn] := ⟨.nilFunc, by kernel_rfl, rfl, rfl⟩
instance ty75 : TyI Tryz.prog 75 false 1 := ⟨by kernel_rfl, by kernel_rfl⟩
instance no75 : NoI Tryz.prog 75 := ⟨by kernel_rfl⟩
instance by75 : ByI Tryz.prog 75 24 := ⟨by kernel_rfl⟩
instance sl75 : SlI Tryz.prog 75 78 := ⟨by kernel_rfl⟩
instance ni75 : NiI Tryz.prog 75 := ⟨.inl ⟨78, by kernel_rfl⟩⟩
instance zc75 : ZcI Tryz.prog 75 [.nsl] := ⟨.slice none 0 0, by kernel_rfl, rfl, rfl⟩
instance ty76 : TyI Tryz.prog 76 false 1 := ⟨by kernel_rfl, by kernel_rfl⟩
instance no76 : NoI Tryz.prog 76 := ⟨by kernel_rfl⟩
instance by76 : ByI Tryz.prog 76 8 := ⟨by kernel_rfl⟩
instance zc76 : ZcI Tryz.prog 76 [.nfn] := ⟨.nilFunc, by kernel_rfl, rfl, rfl⟩
instance ty77 : TyI Tryz.prog 77 false 1 := ⟨by kernel_rfl, by kernel_rfl⟩
instance no77 : NoI Tryz.prog 77 := ⟨by kernel_rfl⟩
instance by77 : ByI Tryz.prog 77 8 := ⟨by kernel_rfl⟩
instance zc77 : ZcI Tryz.prog 77 [.nptr] := ⟨.pointer none, by kernel_rfl, rfl, rfl⟩
instance ty78 : TyI Tryz.prog 78 false 1 := ⟨by kernel_rfl, by kernel_rfl⟩
instance no78 : NoI Tryz.prog 78 := ⟨by kernel_rfl⟩
instance by78 : ByI Tryz.prog 78 8 := ⟨by kernel_rfl⟩
instance zc78 : ZcI Tryz.prog 78 [.nptr] := ⟨.pointer none, by kernel_rfl, rfl, rfl⟩
instance ty79 : TyI Tryz.prog 79 false 1 := ⟨by kernel_rfl, by kernel_rfl⟩
instance no79 : NoI Tryz.prog 79 := ⟨by kernel_rfl⟩
instance by79 : ByI Tryz.prog 79 8 := ⟨by kernel_rfl⟩
instance zc79 : ZcI Tryz.prog 79 [.nfn] := ⟨.nilFunc, by kernel_rfl, rfl, rfl⟩
instance ty80 : TyI Tryz.prog 80 false 1 := ⟨by kernel_rfl, by kernel_rfl⟩
instance no80 : NoI Tryz.prog 80 := ⟨by kernel_rfl⟩
instance by80 : ByI Tryz.prog 80 8 := ⟨by kernel_rfl⟩
instance zc80 : ZcI Tryz.prog 80 [.nfn] := ⟨.nilFunc, by kernel_rfl, rfl, rfl⟩
instance ty81 : TyI Tryz.prog 81 false 1 := ⟨by kernel_rfl, by kernel_rfl⟩
instance no81 : NoI Tryz.prog 81 := ⟨by kernel_rfl⟩
instance by81 : ByI Tryz.prog 81 8 := ⟨by kernel_rfl⟩
instance zc81 : ZcI Tryz.prog 81 [.nfn] := ⟨.nilFunc, by kernel_rfl, rfl, rfl⟩
instance ty82 : TyI Tryz.prog 82 false 1 := ⟨by kernel_rfl, by kernel_rfl⟩
instance no82 : NoI Tryz.prog 82 := ⟨by kernel_rfl⟩
instance by82 : ByI Tryz.prog 82 8 := ⟨by kernel_rfl⟩
instance zc82 : ZcI Tryz.prog 82 [.nfn] := ⟨.nilFunc, by kernel_rfl, rfl, rfl⟩
instance ty83 : TyI Tryz.prog 83 false 1 := ⟨by kernel_rfl, by kernel_rfl⟩
instance no83 : NoI Tryz.prog 83 := ⟨by kernel_rfl⟩
instance by83 : ByI Tryz.prog 83 8 := ⟨by kernel_rfl⟩
instance zc83 : ZcI Tryz.prog 83 [.nfn] := ⟨.nilFunc, by kernel_rfl, rfl, rfl⟩
instance ty84 : TyI Tryz.prog 84 false 1 := ⟨by kernel_rfl, by kernel_rfl⟩
instance no84 : NoI Tryz.prog 84 := ⟨by kernel_rfl⟩
instance by84 : ByI Tryz.prog 84 8 := ⟨by kernel_rfl⟩
instance zc84 : ZcI Tryz.prog 84 [.nfn] := ⟨.nilFunc, by kernel_rfl, rfl, rfl⟩
instance ty85 : TyI Tryz.prog 85 false 1 := ⟨by kernel_rfl, by kernel_rfl⟩
instance no85 : NoI Tryz.prog 85 := ⟨by kernel_rfl⟩
instance by85 : ByI Tryz.prog 85 8 := ⟨by kernel_rfl⟩
instance zc85 : ZcI Tryz.prog 85 [.nfn] := ⟨.nilFunc, by kernel_rfl, rfl, rfl⟩
instance ty86 : TyI Tryz.prog 86 false 1 := ⟨by kernel_rfl, by kernel_rfl⟩
instance no86 : NoI Tryz.prog 86 := ⟨by kernel_rfl⟩
instance by86 : ByI Tryz.prog 86 8 := ⟨by kernel_rfl⟩
instance zc86 : ZcI Tryz.prog 86 [.nfn] := ⟨.nilFunc, by kernel_rfl, rfl, rfl⟩
instance ty87 : TyI Tryz.prog 87 false 1 := ⟨by kernel_rfl, by kernel_rfl⟩
instance no87 : NoI Tryz.prog 87 := ⟨by kernel_rfl⟩
instance by87 : ByI Tryz.prog 87 8 := ⟨by kernel_rfl⟩
instance zc87 : ZcI Tryz.prog 87 [.nfn] := ⟨.nilFunc, by kernel_rfl, rfl, rfl⟩
instance ty88 : TyI Tryz.prog 88 false 1 := ⟨by kernel_rfl, by kernel_rfl⟩
instance no88 : NoI Tryz.prog 88 := ⟨by kernel_rfl⟩
instance by88 : ByI Tryz.prog 88 8 := ⟨by kernel_rfl⟩
instance zc88 : ZcI Tryz.prog 88 [.nfn] := ⟨.nilFunc, by kernel_rfl, rfl, rfl⟩
instance ty89 : TyI Tryz.prog 89 false 1 := ⟨by kernel_rfl, by kernel_rfl⟩
instance no89 : NoI Tryz.prog 89 := ⟨by kernel_rfl⟩
instance by89 : ByI Tryz.prog 89 8 := ⟨by kernel_rfl⟩
instance zc89 : ZcI Tryz.prog 89 [.nfn] := ⟨.nilFunc, by kernel_rfl, rfl, rfl⟩
instance ty90 : TyI Tryz.prog 90 false 1 := ⟨by kernel_rfl, by kernel_rfl⟩
instance no90 : NoI Tryz.prog 90 := ⟨by kernel_rfl⟩
instance by90 : ByI Tryz.prog 90 8 := ⟨by kernel_rfl⟩
instance zc90 : ZcI Tryz.prog 90 [.nfn] := ⟨.nilFunc, by kernel_rfl, rfl, rfl⟩
instance ty91 : TyI Tryz.prog 91 false 1 := ⟨by kernel_rfl, by kernel_rfl⟩
instance no91 : NoI Tryz.prog 91 := ⟨by kernel_rfl⟩
instance by91 : ByI Tryz.prog 91 8 := ⟨by kernel_rfl⟩
instance zc91 : ZcI Tryz.prog 91 [.nfn] := ⟨.nilFunc, by kernel_rfl, rfl, rfl⟩
instance ty92 : TyI Tryz.prog 92 false 1 := ⟨by kernel_rfl, by kernel_rfl⟩
instance no92 : NoI Tryz.prog 92 := ⟨by kernel_rfl⟩
instance by92 : ByI Tryz.prog 92 8 := ⟨by kernel_rfl⟩
instance zc92 : ZcI Tryz.prog 92 [.nfn] := ⟨.nilFunc, by kernel_rfl, rfl, rfl⟩
instance ty93 : TyI Tryz.prog 93 false 1 := ⟨by kernel_rfl, by kernel_rfl⟩
instance no93 : NoI Tryz.prog 93 := ⟨by kernel_rfl⟩
instance by93 : ByI Tryz.prog 93 8 := ⟨by kernel_rfl⟩
instance zc93 : ZcI Tryz.prog 93 [.nfn] := ⟨.nilFunc, by kernel_rfl, rfl, rfl⟩
instance ty94 : TyI Tryz.prog 94 false 1 := ⟨by kernel_rfl, by kernel_rfl⟩
instance no94 : NoI Tryz.prog 94 := ⟨by kernel_rfl⟩
instance by94 : ByI Tryz.prog 94 8 := ⟨by kernel_rfl⟩
instance zc94 : ZcI Tryz.prog 94 [.nfn] := ⟨.nilFunc, by kernel_rfl, rfl, rfl⟩
instance ty95 : TyI Tryz.prog 95 false 1 := ⟨by kernel_rfl, by kernel_rfl⟩
instance no95 : NoI Tryz.prog 95 := ⟨by kernel_rfl⟩
instance by95 : ByI Tryz.prog 95 8 := ⟨by kernel_rfl⟩
instance zc95 : ZcI Tryz.prog 95 [.nfn] := ⟨.nilFunc, by kernel_rfl, rfl, rfl⟩
instance ty96 : TyI Tryz.prog 96 false 1 := ⟨by kernel_rfl, by kernel_rfl⟩
instance no96 : NoI Tryz.prog 96 := ⟨by kernel_rfl⟩
instance by96 : ByI Tryz.prog 96 8 := ⟨by kernel_rfl⟩
instance zc96 : ZcI Tryz.prog 96 [.nfn] := ⟨.nilFunc, by kernel_rfl, rfl, rfl⟩
instance ty97 : TyI Tryz.prog 97 false 1 := ⟨by kernel_rfl, by kernel_rfl⟩
instance no97 : NoI Tryz.prog 97 := ⟨by kernel_rfl⟩
instance by97 : ByI Tryz.prog 97 8 := ⟨by kernel_rfl⟩
instance zc97 : ZcI Tryz.prog 97 [.nfn] := ⟨.nilFunc, by kernel_rfl, rfl, rfl⟩
instance ty98 : TyI Tryz.prog 98 false 1 := ⟨by kernel_rfl, by kernel_rfl⟩
instance no98 : NoI Tryz.prog 98 := ⟨by kernel_rfl⟩
instance by98 : ByI Tryz.prog 98 8 := ⟨by kernel_rfl⟩
instance zc98 : ZcI Tryz.prog 98 [.nfn] := ⟨.nilFunc, by kernel_rfl, rfl, rfl⟩
instance ty99 : TyI Tryz.prog 99 false 1 := ⟨by kernel_rfl, by kernel_rfl⟩
instance no99 : NoI Tryz.prog 99 := ⟨by kernel_rfl⟩
instance by99 : ByI Tryz.prog 99 8 := ⟨by kernel_rfl⟩
instance zc99 : ZcI Tryz.prog 99 [.nfn] := ⟨.nilFunc, by kernel_rfl, rfl, rfl⟩
instance ty100 : TyI Tryz.prog 100 false 1 := ⟨by kernel_rfl, by kernel_rfl⟩
instance no100 : NoI Tryz.prog 100 := ⟨by kernel_rfl⟩
instance by100 : ByI Tryz.prog 100 8 := ⟨by kernel_rfl⟩
instance zc100 : ZcI Tryz.prog 100 [.nfn] := ⟨.nilFunc, by kernel_rfl, rfl, rfl⟩
instance ty101 : TyI Tryz.prog 101 false 1 := ⟨by kernel_rfl, by kernel_rfl⟩
instance no101 : NoI Tryz.prog 101 := ⟨by kernel_rfl⟩
instance by101 : ByI Tryz.prog 101 8 := ⟨by kernel_rfl⟩
instance zc101 : ZcI Tryz.prog 101 [.nptr] := ⟨.pointer none, by kernel_rfl, rfl, rfl⟩
instance ty102 : TyI Tryz.prog 102 true 9 := ⟨by kernel_rfl, by kernel_rfl⟩
instance no102 : NoI Tryz.prog 102 := ⟨by kernel_rfl⟩
instance by102 : ByI Tryz.prog 102 152 := ⟨by kernel_rfl⟩
instance fl102_0 : FldI Tryz.prog 102 0 0 27 := ⟨by kernel_rfl⟩
instance st102 : StI Tryz.prog 102 [(0, 9)] := ⟨by kernel_rfl⟩
instance zc102 : ZcI Tryz.prog 102 [.nsl, .nsl, .nsl, .int .i64 0, .nsl, .nsl, .int .i64 0, .int .i64 0, .int .i64 0] := ⟨.agg #[.slice none 0 0, .slice none 0 0, .slice none 0 0, .int .i64 0, .slice none 0 0, .slice none 0 0, .int .i64 0, .int .i64 0, .int .i64 0], by kernel_rfl, rfl, rfl⟩
instance ty103 : TyI Tryz.prog 103 true 9 := ⟨by kernel_rfl, by kernel_rfl⟩
instance no103 : NoI Tryz.prog 103 := ⟨by kernel_rfl⟩
instance by103 : ByI Tryz.prog 103 152 := ⟨by kernel_rfl⟩
instance fl103_0 : FldI Tryz.prog 103 0 0 27 := ⟨by kernel_rfl⟩
instance st103 : StI Tryz.prog 103 [(0, 9)] := ⟨by kernel_rfl⟩
instance zc103 : ZcI Tryz.prog 103 [.nsl, .nsl, .nsl, .int .i64 0, .nsl, .nsl, .int .i64 0, .int .i64 0, .int .i64 0] := ⟨.agg #[.slice none 0 0, .slice none 0 0, .slice none 0 0, .int .i64 0, .slice none 0 0, .slice none 0 0, .int .i64 0, .int .i64 0, .int .i64 0], by kernel_rfl, rfl, rfl⟩
instance ty104 : TyI Tryz.prog 104 false 1 := ⟨by kernel_rfl, by kernel_rfl⟩
instance no104 : NoI Tryz.prog 104 := ⟨by kernel_rfl⟩
instance by104 : ByI Tryz.prog 104 8 := ⟨by kernel_rfl⟩
instance zc104 : ZcI Tryz.prog 104 [.nfn] := ⟨.nilFunc, by kernel_rfl, rfl, rfl⟩
instance ty105 : TyI Tryz.prog 105 false 1 := ⟨by kernel_rfl, by kernel_rfl⟩
instance no105 : NoI Tryz.prog 105 := ⟨by kernel_rfl⟩
instance by105 : ByI Tryz.prog 105 8 := ⟨by kernel_rfl⟩
instance zc105 : ZcI Tryz.prog 105 [.nfn] := ⟨.nilFunc, by kernel_rfl, rfl, rfl⟩
instance ty106 : TyI Tryz.prog 106 false 1 := ⟨by kernel_rfl, by kernel_rfl⟩
instance no106 : NoI Tryz.prog 106 := ⟨by kernel_rfl⟩
instance by106 : ByI Tryz.prog 106 8 := ⟨by kernel_rfl⟩
instance zc106 : ZcI Tryz.prog 106 [.nfn] := ⟨.nilFunc, by kernel_rfl, rfl, rfl⟩
instance ty107 : TyI Tryz.prog 107 false 1 := ⟨by kernel_rfl, by kernel_rfl⟩
instance no107 : NoI Tryz.prog 107 := ⟨by kernel_rfl⟩
instance by107 : ByI Tryz.prog 107 8 := ⟨by kernel_rfl⟩
instance zc107 : ZcI Tryz.prog 107 [.nfn] := ⟨.nilFunc, by kernel_rfl, rfl, rfl⟩
instance ty108 : TyI Tryz.prog 108 false 1 := ⟨by kernel_rfl, by kernel_rfl⟩
instance no108 : NoI Tryz.prog 108 := ⟨by kernel_rfl⟩
instance by108 : ByI Tryz.prog 108 8 := ⟨by kernel_rfl⟩
instance zc108 : ZcI Tryz.prog 108 [.nfn] := ⟨.nilFunc, by kernel_rfl, rfl, rfl⟩
instance ty109 : TyI Tryz.prog 109 false 1 := ⟨by kernel_rfl, by kernel_rfl⟩
instance no109 : NoI Tryz.prog 109 := ⟨by kernel_rfl⟩
instance by109 : ByI Tryz.prog 109 8 := ⟨by kernel_rfl⟩
instance ud109 : UdI Tryz.prog 109 (.int .u64) := ⟨by kernel_rfl⟩
instance zc109 : ZcI Tryz.prog 109 [.int .u64 0] := ⟨.int .u64 0, by kernel_rfl, rfl, rfl⟩
instance ty110 : TyI Tryz.prog 110 true 4 := ⟨by kernel_rfl, by kernel_rfl⟩
instance no110 : NoI Tryz.prog 110 := ⟨by kernel_rfl⟩
instance by110 : ByI Tryz.prog 110 32 := ⟨by kernel_rfl⟩
instance ar110 : ArI Tryz.prog 110 4 109 := ⟨by kernel_rfl⟩
instance zc110 : ZcI Tryz.prog 110 [.int .u64 0, .int .u64 0, .int .u64 0, .int .u64 0] := ⟨.agg #[.int .u64 0, .int .u64 0, .int .u64 0, .int .u64 0], by kernel_rfl, rfl, rfl⟩
instance ty111 : TyI Tryz.prog 111 true 4 := ⟨by kernel_rfl, by kernel_rfl⟩
instance no111 : NoI Tryz.prog 111 := ⟨by kernel_rfl⟩
instance by111 : ByI Tryz.prog 111 32 := ⟨by kernel_rfl⟩
instance ar111 : ArI Tryz.prog 111 4 109 := ⟨by kernel_rfl⟩
instance zc111 : ZcI Tryz.prog 111 [.int .u64 0, .int .u64 0, .int .u64 0, .int .u64 0] := ⟨.agg #[.int .u64 0, .int .u64 0, .int .u64 0, .int .u64 0], by kernel_rfl, rfl, rfl⟩
instance ty113 : TyI Tryz.prog 113 false 1 := ⟨by kernel_rfl, by kernel_rfl⟩
instance no113 : NoI Tryz.prog 113 := ⟨by kernel_rfl⟩
instance by113 : ByI Tryz.prog 113 8 := ⟨by kernel_rfl⟩
instance zc113 : ZcI Tryz.prog 113 [.nfn] := ⟨.nilFunc, by kernel_rfl, rfl, rfl⟩
instance ty114 : TyI Tryz.prog 114 false 1 := ⟨by kernel_rfl, by kernel_rfl⟩
instance no114 : NoI Tryz.prog 114 := ⟨by kernel_rfl⟩
instance by114 : ByI Tryz.prog 114 8 := ⟨by kernel_rfl⟩
instance zc114 : ZcI Tryz.prog 114 [.nfn] := ⟨.nilFunc, by kernel_rfl, rfl, rfl⟩
instance ty116 : TyI Tryz.prog 116 false 1 := ⟨by kernel_rfl, by kernel_rfl⟩
instance no116 : NoI Tryz.prog 116 := ⟨by kernel_rfl⟩
instance by116 : ByI Tryz.prog 116 8 := ⟨by kernel_rfl⟩
instance zc116 : ZcI Tryz.prog 116 [.nfn] := ⟨.nilFunc, by kernel_rfl, rfl, rfl⟩
instance ty117 : TyI Tryz.prog 117 false 1 := ⟨by kernel_rfl, by kernel_rfl⟩
instance no117 : NoI Tryz.prog 117 := ⟨by kernel_rfl⟩
instance by117 : ByI Tryz.prog 117 8 := ⟨by kernel_rfl⟩
instance zc117 : ZcI Tryz.prog 117 [.nfn] := ⟨.nilFunc, by kernel_rfl, rfl, rfl⟩
instance ty118 : TyI Tryz.prog 118 false 1 := ⟨by kernel_rfl, by kernel_rfl⟩
instance no118 : NoI Tryz.prog 118 := ⟨by kernel_rfl⟩
instance by118 : ByI Tryz.prog 118 8 := ⟨by kernel_rfl⟩
instance zc118 : ZcI Tryz.prog 118 [.nfn] := ⟨.nilFunc, by kernel_rfl, rfl, rfl⟩
instance ty120 : TyI Tryz.prog 120 false 1 := ⟨by kernel_rfl, by kernel_rfl⟩
instance no120 : NoI Tryz.prog 120 := ⟨by kernel_rfl⟩
instance by120 : ByI Tryz.prog 120 8 := ⟨by kernel_rfl⟩
instance zc120 : ZcI Tryz.prog 120 [.nfn] := ⟨.nilFunc, by kernel_rfl, rfl, rfl⟩
instance ty121 : TyI Tryz.prog 121 false 1 := ⟨by kernel_rfl, by kernel_rfl⟩
instance no121 : NoI Tryz.prog 121 := ⟨by kernel_rfl⟩
instance by121 : ByI Tryz.prog 121 8 := ⟨by kernel_rfl⟩
instance zc121 : ZcI Tryz.prog 121 [.nfn] := ⟨.nilFunc, by kernel_rfl, rfl, rfl⟩
instance ty122 : TyI Tryz.prog 122 false 1 := ⟨by kernel_rfl, by kernel_rfl⟩
instance no122 : NoI Tryz.prog 122 := ⟨by kernel_rfl⟩
instance by122 : ByI Tryz.prog 122 8 := ⟨by kernel_rfl⟩
instance zc122 : ZcI Tryz.prog 122 [.nfn] := ⟨.nilFunc, by kernel_rfl, rfl, rfl⟩
instance ty123 : TyI Tryz.prog 123 false 1 := ⟨by kernel_rfl, by kernel_rfl⟩
instance no123 : NoI Tryz.prog 123 := ⟨by kernel_rfl⟩
instance by123 : ByI Tryz.prog 123 8 := ⟨by kernel_rfl⟩
instance zc123 : ZcI Tryz.prog 123 [.nptr] := ⟨.pointer none, by kernel_rfl, rfl, rfl⟩
instance ty124 : TyI Tryz.prog 124 false 1 := ⟨by kernel_rfl, by kernel_rfl⟩
instance no124 : NoI Tryz.prog 124 := ⟨by kernel_rfl⟩
instance by124 : ByI Tryz.prog 124 24 := ⟨by kernel_rfl⟩
instance sl124 : SlI Tryz.prog 124 123 := ⟨by kernel_rfl⟩
instance ni124 : NiI Tryz.prog 124 := ⟨.inl ⟨123, by kernel_rfl⟩⟩
instance zc124 : ZcI Tryz.prog 124 [.nsl] := ⟨.slice none 0 0, by kernel_rfl, rfl, rfl⟩
instance ty125 : TyI Tryz.prog 125 false 1 := ⟨by kernel_rfl, by kernel_rfl⟩
instance no125 : NoI Tryz.prog 125 := ⟨by kernel_rfl⟩
instance by125 : ByI Tryz.prog 125 8 := ⟨by kernel_rfl⟩
instance zc125 : ZcI Tryz.prog 125 [.nfn] := ⟨.nilFunc, by kernel_rfl, rfl, rfl⟩
instance ty126 : TyI Tryz.prog 126 false 1 := ⟨by kernel_rfl, by kernel_rfl⟩
instance no126 : NoI Tryz.prog 126 := ⟨by kernel_rfl⟩
instance by126 : ByI Tryz.prog 126 8 := ⟨by kernel_rfl⟩
instance zc126 : ZcI Tryz.prog 126 [.nfn] := ⟨.nilFunc, by kernel_rfl, rfl, rfl⟩
instance ty127 : TyI Tryz.prog 127 false 1 := ⟨by kernel_rfl, by kernel_rfl⟩
instance no127 : NoI Tryz.prog 127 := ⟨by kernel_rfl⟩
instance by127 : ByI Tryz.prog 127 8 := ⟨by kernel_rfl⟩
instance zc127 : ZcI Tryz.prog 127 [.nfn] := ⟨.nilFunc, by kernel_rfl, rfl, rfl⟩
instance ty128 : TyI Tryz.prog 128 false 1 := ⟨by kernel_rfl, by kernel_rfl⟩
instance no128 : NoI Tryz.prog 128 := ⟨by kernel_rfl⟩
instance by128 : ByI Tryz.prog 128 8 := ⟨by kernel_rfl⟩
instance zc128 : ZcI Tryz.prog 128 [.nfn] := ⟨.nilFunc, by kernel_rfl, rfl, rfl⟩
instance ty129 : TyI Tryz.prog 129 false 1 := ⟨by kernel_rfl, by kernel_rfl⟩
instance no129 : NoI Tryz.prog 129 := ⟨by kernel_rfl⟩
instance by129 : ByI Tryz.prog 129 8 := ⟨by kernel_rfl⟩
instance zc129 : ZcI Tryz.prog 129 [.nfn] := ⟨.nilFunc, by kernel_rfl, rfl, rfl⟩
instance ty131 : TyI Tryz.prog 131 false 1 := ⟨by kernel_rfl, by kernel_rfl⟩
instance no131 : NoI Tryz.prog 131 := ⟨by kernel_rfl⟩
instance by131 : ByI Tryz.prog 131 8 := ⟨by kernel_rfl⟩
instance zc131 : ZcI Tryz.prog 131 [.nfn] := ⟨.nilFunc, by kernel_rfl, rfl, rfl⟩
instance ty132 : TyI Tryz.prog 132 false 1 := ⟨by kernel_rfl, by kernel_rfl⟩
instance no132 : NoI Tryz.prog 132 := ⟨by kernel_rfl⟩
instance by132 : ByI Tryz.prog 132 8 := ⟨by kernel_rfl⟩
instance zc132 : ZcI Tryz.prog 132 [.nfn] := ⟨.nilFunc, by kernel_rfl, rfl, rfl⟩
instance ty133 : TyI Tryz.prog 133 false 1 := ⟨by kernel_rfl, by kernel_rfl⟩
instance no133 : NoI Tryz.prog 133 := ⟨by kernel_rfl⟩
instance by133 : ByI Tryz.prog 133 8 := ⟨by kernel_rfl⟩
instance zc133 : ZcI Tryz.prog 133 [.nfn] := ⟨.nilFunc, by kernel_rfl, rfl, rfl⟩
instance ty134 : TyI Tryz.prog 134 false 1 := ⟨by kernel_rfl, by kernel_rfl⟩
instance no134 : NoI Tryz.prog 134 := ⟨by kernel_rfl⟩
instance by134 : ByI Tryz.prog 134 24 := ⟨by kernel_rfl⟩
instance sl134 : SlI Tryz.prog 134 4 := ⟨by kernel_rfl⟩
instance ni134 : NiI Tryz.prog 134 := ⟨.inl ⟨4, by kernel_rfl⟩⟩
instance zc134 : ZcI Tryz.prog 134 [.nsl] := ⟨.slice none 0 0, by kernel_rfl, rfl, rfl⟩
instance ty135 : TyI Tryz.prog 135 false 1 := ⟨by kernel_rfl, by kernel_rfl⟩
instance no135 : NoI Tryz.prog 135 := ⟨by kernel_rfl⟩
instance by135 : ByI Tryz.prog 135 8 := ⟨by kernel_rfl⟩
instance zc135 : ZcI Tryz.prog 135 [.nfn] := ⟨.nilFunc, by kernel_rfl, rfl, rfl⟩
instance ty136 : TyI Tryz.prog 136 false 1 := ⟨by kernel_rfl, by kernel_rfl⟩
instance no136 : NoI Tryz.prog 136 := ⟨by kernel_rfl⟩
instance by136 : ByI Tryz.prog 136 8 := ⟨by kernel_rfl⟩
instance zc136 : ZcI Tryz.prog 136 [.nfn] := ⟨.nilFunc, by kernel_rfl, rfl, rfl⟩
instance ty137 : TyI Tryz.prog 137 false 1 := ⟨by kernel_rfl, by kernel_rfl⟩
instance no137 : NoI Tryz.prog 137 := ⟨by kernel_rfl⟩
instance by137 : ByI Tryz.prog 137 8 := ⟨by kernel_rfl⟩
instance zc137 : ZcI Tryz.prog 137 [.nfn] := ⟨.nilFunc, by kernel_rfl, rfl, rfl⟩
instance ty138 : TyI Tryz.prog 138 false 1 := ⟨by kernel_rfl, by kernel_rfl⟩
instance no138 : NoI Tryz.prog 138 := ⟨by kernel_rfl⟩
instance by138 : ByI Tryz.prog 138 8 := ⟨by kernel_rfl⟩
instance zc138 : ZcI Tryz.prog 138 [.nfn] := ⟨.nilFunc, by kernel_rfl, rfl, rfl⟩
instance ty140 : TyI Tryz.prog 140 false 1 := ⟨by kernel_rfl, by kernel_rfl⟩
instance no140 : NoI Tryz.prog 140 := ⟨by kernel_rfl⟩
instance by140 : ByI Tryz.prog 140 8 := ⟨by kernel_rfl⟩
instance zc140 : ZcI Tryz.prog 140 [.nfn] := ⟨.nilFunc, by kernel_rfl, rfl, rfl⟩
instance ty142 : TyI Tryz.prog 142 false 1 := ⟨by kernel_rfl, by kernel_rfl⟩
instance no142 : NoI Tryz.prog 142 := ⟨by kernel_rfl⟩
instance by142 : ByI Tryz.prog 142 8 := ⟨by kernel_rfl⟩
instance zc142 : ZcI Tryz.prog 142 [.nfn] := ⟨.nilFunc, by kernel_rfl, rfl, rfl⟩
instance ty143 : TyI Tryz.prog 143 false 1 := ⟨by kernel_rfl, by kernel_rfl⟩
instance no143 : NoI Tryz.prog 143 := ⟨by kernel_rfl⟩
instance by143 : ByI Tryz.prog 143 8 := ⟨by kernel_rfl⟩
instance zc143 : ZcI Tryz.prog 143 [.nfn] := ⟨.nilFunc, by kernel_rfl, rfl, rfl⟩
instance ty145 : TyI Tryz.prog 145 false 1 := ⟨by kernel_rfl, by kernel_rfl⟩
instance no145 : NoI Tryz.prog 145 := ⟨by kernel_rfl⟩
instance by145 : ByI Tryz.prog 145 8 := ⟨by kernel_rfl⟩
instance zc145 : ZcI Tryz.prog 145 [.nfn] := ⟨.nilFunc, by kernel_rfl, rfl, rfl⟩
instance ty146 : TyI Tryz.prog 146 false 1 := ⟨by kernel_rfl, by kernel_rfl⟩
instance no146 : NoI Tryz.prog 146 := ⟨by kernel_rfl⟩
instance by146 : ByI Tryz.prog 146 8 := ⟨by kernel_rfl⟩
instance zc146 : ZcI Tryz.prog 146 [.nfn] := ⟨.nilFunc, by kernel_rfl, rfl, rfl⟩
instance ty148 : TyI Tryz.prog 148 false 1 := ⟨by kernel_rfl, by kernel_rfl⟩
instance no148 : NoI Tryz.prog 148 := ⟨by kernel_rfl⟩
instance by148 : ByI Tryz.prog 148 8 := ⟨by kernel_rfl⟩
instance zc148 : ZcI Tryz.prog 148 [.nfn] := ⟨.nilFunc, by kernel_rfl, rfl, rfl⟩
instance ty150 : TyI Tryz.prog 150 false 1 := ⟨by kernel_rfl, by kernel_rfl⟩
instance no150 : NoI Tryz.prog 150 := ⟨by kernel_rfl⟩
instance by150 : ByI Tryz.prog 150 8 := ⟨by kernel_rfl⟩
instance zc150 : ZcI Tryz.prog 150 [.nfn] := ⟨.nilFunc, by kernel_rfl, rfl, rfl⟩
instance ty151 : TyI Tryz.prog 151 false 1 := ⟨by kernel_rfl, by kernel_rfl⟩
instance no151 : NoI Tryz.prog 151 := ⟨by kernel_rfl⟩
instance by151 : ByI Tryz.prog 151 8 := ⟨by kernel_rfl⟩
instance zc151 : ZcI Tryz.prog 151 [.nfn] := ⟨.nilFunc, by kernel_rfl, rfl, rfl⟩
instance ty152 : TyI Tryz.prog 152 false 1 := ⟨by kernel_rfl, by kernel_rfl⟩
instance no152 : NoI Tryz.prog 152 := ⟨by kernel_rfl⟩
instance by152 : ByI Tryz.prog 152 8 := ⟨by kernel_rfl⟩
instance zc152 : ZcI Tryz.prog 152 [.nfn] := ⟨.nilFunc, by kernel_rfl, rfl, rfl⟩
instance ty153 : TyI Tryz.prog 153 false 1 := ⟨by kernel_rfl, by kernel_rfl⟩
instance no153 : NoI Tryz.prog 153 := ⟨by kernel_rfl⟩
instance by153 : ByI Tryz.prog 153 8 := ⟨by kernel_rfl⟩
instance zc153 : ZcI Tryz.prog 153 [.nfn] := ⟨.nilFunc, by kernel_rfl, rfl, rfl⟩
instance ty154 : TyI Tryz.prog 154 false 1 := ⟨by kernel_rfl, by kernel_rfl⟩
instance no154 : NoI Tryz.prog 154 := ⟨by kernel_rfl⟩
instance by154 : ByI Tryz.prog 154 8 := ⟨by kernel_rfl⟩
instance zc154 : ZcI Tryz.prog 154 [.nfn] := ⟨.nilFunc, by kernel_rfl, rfl, rfl⟩
instance ty155 : TyI Tryz.prog 155 false 1 := ⟨by kernel_rfl, by kernel_rfl⟩
instance no155 : NoI Tryz.prog 155 := ⟨by kernel_rfl⟩
instance by155 : ByI Tryz.prog 155 8 := ⟨by kernel_rfl⟩
instance zc155 : ZcI Tryz.prog 155 [.nfn] := ⟨.nilFunc, by kernel_rfl, rfl, rfl⟩
instance ty157 : TyI Tryz.prog 157 false 1 := ⟨by kernel_rfl, by kernel_rfl⟩
instance no157 : NoI Tryz.prog 157 := ⟨by kernel_rfl⟩
instance by157 : ByI Tryz.prog 157 8 := ⟨by kernel_rfl⟩
instance zc157 : ZcI Tryz.prog 157 [.nfn] := ⟨.nilFunc, by kernel_rfl, rfl, rfl⟩
instance ty158 : TyI Tryz.prog 158 false 1 := ⟨by kernel_rfl, by kernel_rfl⟩
instance no158 : NoI Tryz.prog 158 := ⟨by kernel_rfl⟩
instance by158 : ByI Tryz.prog 158 8 := ⟨by kernel_rfl⟩
instance zc158 : ZcI Tryz.prog 158 [.nfn] := ⟨.nilFunc, by kernel_rfl, rfl, rfl⟩
instance ty160 : TyI Tryz.prog 160 false 1 := ⟨by kernel_rfl, by kernel_rfl⟩
instance no160 : NoI Tryz.prog 160 := ⟨by kernel_rfl⟩
instance by160 : ByI Tryz.prog 160 8 := ⟨by kernel_rfl⟩
instance zc160 : ZcI Tryz.prog 160 [.nfn] := ⟨.nilFunc, by kernel_rfl, rfl, rfl⟩
instance ty161 : TyI Tryz.prog 161 false 1 := ⟨by kernel_rfl, by kernel_rfl⟩
instance no161 : NoI Tryz.prog 161 := ⟨by kernel_rfl⟩
instance by161 : ByI Tryz.prog 161 8 := ⟨by kernel_rfl⟩
instance zc161 : ZcI Tryz.prog 161 [.nfn] := ⟨.nilFunc, by kernel_rfl, rfl, rfl⟩
instance ty162 : TyI Tryz.prog 162 false 1 := ⟨by kernel_rfl, by kernel_rfl⟩
instance no162 : NoI Tryz.prog 162 := ⟨by kernel_rfl⟩
instance by162 : ByI Tryz.prog 162 8 := ⟨by kernel_rfl⟩
instance zc162 : ZcI Tryz.prog 162 [.nfn] := ⟨.nilFunc, by kernel_rfl, rfl, rfl⟩
instance ty163 : TyI Tryz.prog 163 false 1 := ⟨by kernel_rfl, by kernel_rfl⟩
instance no163 : NoI Tryz.prog 163 := ⟨by kernel_rfl⟩
instance by163 : ByI Tryz.prog 163 8 := ⟨by kernel_rfl⟩
instance zc163 : ZcI Tryz.prog 163 [.nfn] := ⟨.nilFunc, by kernel_rfl, rfl, rfl⟩
instance ty164 : TyI Tryz.prog 164 false 1 := ⟨by kernel_rfl, by kernel_rfl⟩
instance no164 : NoI Tryz.prog 164 := ⟨by kernel_rfl⟩
instance by164 : ByI Tryz.prog 164 8 := ⟨by kernel_rfl⟩
instance zc164 : ZcI Tryz.prog 164 [.nfn] := ⟨.nilFunc, by kernel_rfl, rfl, rfl⟩
instance ty166 : TyI Tryz.prog 166 false 1 := ⟨by kernel_rfl, by kernel_rfl⟩
instance no166 : NoI Tryz.prog 166 := ⟨by kernel_rfl⟩
instance by166 : ByI Tryz.prog 166 8 := ⟨by kernel_rfl⟩
instance zc166 : ZcI Tryz.prog 166 [.nfn] := ⟨.nilFunc, by kernel_rfl, rfl, rfl⟩
instance ty168 : TyI Tryz.prog 168 false 1 := ⟨by kernel_rfl, by kernel_rfl⟩
instance no168 : NoI Tryz.prog 168 := ⟨by kernel_rfl⟩
instance by168 : ByI Tryz.prog 168 8 := ⟨by kernel_rfl⟩
instance zc168 : ZcI Tryz.prog 168 [.nfn] := ⟨.nilFunc, by kernel_rfl, rfl, rfl⟩
instance ty169 : TyI Tryz.prog 169 false 1 := ⟨by kernel_rfl, by kernel_rfl⟩
instance no169 : NoI Tryz.prog 169 := ⟨by kernel_rfl⟩
instance by169 : ByI Tryz.prog 169 8 := ⟨by kernel_rfl⟩
instance zc169 : ZcI Tryz.prog 169 [.nfn] := ⟨.nilFunc, by kernel_rfl, rfl, rfl⟩
instance ty170 : TyI Tryz.prog 170 false 1 := ⟨by kernel_rfl, by kernel_rfl⟩
instance no170 : NoI Tryz.prog 170 := ⟨by kernel_rfl⟩
instance by170 : ByI Tryz.prog 170 8 := ⟨by kernel_rfl⟩
instance zc170 : ZcI Tryz.prog 170 [.nfn] := ⟨.nilFunc, by kernel_rfl, rfl, rfl⟩
instance ty171 : TyI Tryz.prog 171 false 1 := ⟨by kernel_rfl, by kernel_rfl⟩
instance no171 : NoI Tryz.prog 171 := ⟨by kernel_rfl⟩
instance by171 : ByI Tryz.prog 171 8 := ⟨by kernel_rfl⟩
instance zc171 : ZcI Tryz.prog 171 [.nfn] := ⟨.nilFunc, by kernel_rfl, rfl, rfl⟩
instance ty172 : TyI Tryz.prog 172 false 1 := ⟨by kernel_rfl, by kernel_rfl⟩
instance no172 : NoI Tryz.prog 172 := ⟨by kernel_rfl⟩
instance by172 : ByI Tryz.prog 172 8 := ⟨by kernel_rfl⟩
instance zc172 : ZcI Tryz.prog 172 [.nfn] := ⟨.nilFunc, by kernel_rfl, rfl, rfl⟩
instance ty173 : TyI Tryz.prog 173 false 1 := ⟨by kernel_rfl, by kernel_rfl⟩
instance no173 : NoI Tryz.prog 173 := ⟨by kernel_rfl⟩
instance by173 : ByI Tryz.prog 173 8 := ⟨by kernel_rfl⟩
instance zc173 : ZcI Tryz.prog 173 [.nfn] := ⟨.nilFunc, by kernel_rfl, rfl, rfl⟩
instance ty174 : TyI Tryz.prog 174 false 1 := ⟨by kernel_rfl, by kernel_rfl⟩
instance no174 : NoI Tryz.prog 174 := ⟨by kernel_rfl⟩
instance by174 : ByI Tryz.prog 174 8 := ⟨by kernel_rfl⟩
instance zc174 : ZcI Tryz.prog 174 [.nfn] := ⟨.nilFunc, by kernel_rfl, rfl, rfl⟩
instance ty176 : TyI Tryz.prog 176 false 1 := ⟨by kernel_rfl, by kernel_rfl⟩
instance no176 : NoI Tryz.prog 176 := ⟨by kernel_rfl⟩
instance by176 : ByI Tryz.prog 176 8 := ⟨by kernel_rfl⟩
instance zc176 : ZcI Tryz.prog 176 [.nfn] := ⟨.nilFunc, by kernel_rfl, rfl, rfl⟩
instance ty177 : TyI Tryz.prog 177 false 1 := ⟨by kernel_rfl, by kernel_rfl⟩
instance no177 : NoI Tryz.prog 177 := ⟨by kernel_rfl⟩
instance by177 : ByI Tryz.prog 177 8 := ⟨by kernel_rfl⟩
instance zc177 : ZcI Tryz.prog 177 [.nfn] := ⟨.nilFunc, by kernel_rfl, rfl, rfl⟩
instance ty178 : TyI Tryz.prog 178 false 1 := ⟨by kernel_rfl, by kernel_rfl⟩
instance no178 : NoI Tryz.prog 178 := ⟨by kernel_rfl⟩
instance by178 : ByI Tryz.prog 178 8 := ⟨by kernel_rfl⟩
instance zc178 : ZcI Tryz.prog 178 [.nfn] := ⟨.nilFunc, by kernel_rfl, rfl, rfl⟩
instance ty179 : TyI Tryz.prog 179 false 1 := ⟨by kernel_rfl, by kernel_rfl⟩
instance no179 : NoI Tryz.prog 179 := ⟨by kernel_rfl⟩
instance by179 : ByI Tryz.prog 179 24 := ⟨by kernel_rfl⟩
instance sl179 : SlI Tryz.prog 179 182 := ⟨by kernel_rfl⟩
instance ni179 : NiI Tryz.prog 179 := ⟨.inl ⟨182, by kernel_rfl⟩⟩
instance zc179 : ZcI Tryz.prog 179 [.nsl] := ⟨.slice none 0 0, by kernel_rfl, rfl, rfl⟩
instance ty180 : TyI Tryz.prog 180 false 1 := ⟨by kernel_rfl, by kernel_rfl⟩
instance no180 : NoI Tryz.prog 180 := ⟨by kernel_rfl⟩
instance by180 : ByI Tryz.prog 180 8 := ⟨by kernel_rfl⟩
instance zc180 : ZcI Tryz.prog 180 [.nfn] := ⟨.nilFunc, by kernel_rfl, rfl, rfl⟩
instance ty181 : TyI Tryz.prog 181 true 8 := ⟨by kernel_rfl, by kernel_rfl⟩
instance no181 : NoI Tryz.prog 181 := ⟨by kernel_rfl⟩
instance by181 : ByI Tryz.prog 181 72 := ⟨by kernel_rfl⟩
instance fl181_0 : FldI Tryz.prog 181 0 0 3 := ⟨by kernel_rfl⟩
instance fl181_1 : FldI Tryz.prog 181 1 1 50 := ⟨by kernel_rfl⟩
instance st181 : StI Tryz.prog 181 [(0, 1), (1, 7)] := ⟨by kernel_rfl⟩
instance zc181 : ZcI Tryz.prog 181 [.int .i64 0, .int .i64 0, .int .i64 0, .int .i64 0, .str ⟨#[]⟩, .bool false, .int .i64 0, .int .i64 0] := ⟨.agg #[.int .i64 0, .int .i64 0, .int .i64 0, .int .i64 0, .string ⟨#[]⟩, .bool false, .int .i64 0, .int .i64 0], by kernel_rfl, rfl, rfl⟩
instance ty182 : TyI Tryz.prog 182 true 8 := ⟨by kernel_rfl, by kernel_rfl⟩
instance no182 : NoI Tryz.prog 182 := ⟨by kernel_rfl⟩
instance by182 : ByI Tryz.prog 182 72 := ⟨by kernel_rfl⟩
instance fl182_0 : FldI Tryz.prog 182 0 0 3 := ⟨by kernel_rfl⟩
instance fl182_1 : FldI Tryz.prog 182 1 1 50 := ⟨by kernel_rfl⟩
instance st182 : StI Tryz.prog 182 [(0, 1), (1, 7)] := ⟨by kernel_rfl⟩
instance zc182 : ZcI Tryz.prog 182 [.int .i64 0, .int .i64 0, .int .i64 0, .int .i64 0, .str ⟨#[]⟩, .bool false, .int .i64 0, .int .i64 0] := ⟨.agg #[.int .i64 0, .int .i64 0, .int .i64 0, .int .i64 0, .string ⟨#[]⟩, .bool false, .int .i64 0, .int .i64 0], by kernel_rfl, rfl, rfl⟩
instance ty184 : TyI Tryz.prog 184 false 1 := ⟨by kernel_rfl, by kernel_rfl⟩
instance no184 : NoI Tryz.prog 184 := ⟨by kernel_rfl⟩
instance by184 : ByI Tryz.prog 184 8 := ⟨by kernel_rfl⟩
instance zc184 : ZcI Tryz.prog 184 [.nfn] := ⟨.nilFunc, by kernel_rfl, rfl, rfl⟩
instance ty186 : TyI Tryz.prog 186 false 1 := ⟨by kernel_rfl, by kernel_rfl⟩
instance no186 : NoI Tryz.prog 186 := ⟨by kernel_rfl⟩
instance by186 : ByI Tryz.prog 186 8 := ⟨by kernel_rfl⟩
instance zc186 : ZcI Tryz.prog 186 [.nfn] := ⟨.nilFunc, by kernel_rfl, rfl, rfl⟩
instance ty187 : TyI Tryz.prog 187 false 1 := ⟨by kernel_rfl, by kernel_rfl⟩
instance no187 : NoI Tryz.prog 187 := ⟨by kernel_rfl⟩
instance by187 : ByI Tryz.prog 187 8 := ⟨by kernel_rfl⟩
instance zc187 : ZcI Tryz.prog 187 [.nfn] := ⟨.nilFunc, by kernel_rfl, rfl, rfl⟩
instance ty188 : TyI Tryz.prog 188 false 1 := ⟨by kernel_rfl, by kernel_rfl⟩
instance no188 : NoI Tryz.prog 188 := ⟨by kernel_rfl⟩
instance by188 : ByI Tryz.prog 188 8 := ⟨by kernel_rfl⟩
instance zc188 : ZcI Tryz.prog 188 [.nfn] := ⟨.nilFunc, by kernel_rfl, rfl, rfl⟩
instance ty189 : TyI Tryz.prog 189 false 1 := ⟨by kernel_rfl, by kernel_rfl⟩
instance no189 : NoI Tryz.prog 189 := ⟨by kernel_rfl⟩
instance by189 : ByI Tryz.prog 189 8 := ⟨by kernel_rfl⟩
instance zc189 : ZcI Tryz.prog 189 [.nfn] := ⟨.nilFunc, by kernel_rfl, rfl, rfl⟩
instance ty190 : TyI Tryz.prog 190 false 1 := ⟨by kernel_rfl, by kernel_rfl⟩
instance no190 : NoI Tryz.prog 190 := ⟨by kernel_rfl⟩
instance by190 : ByI Tryz.prog 190 8 := ⟨by kernel_rfl⟩
instance zc190 : ZcI Tryz.prog 190 [.nfn] := ⟨.nilFunc, by kernel_rfl, rfl, rfl⟩
instance ty191 : TyI Tryz.prog 191 false 1 := ⟨by kernel_rfl, by kernel_rfl⟩
instance no191 : NoI Tryz.prog 191 := ⟨by kernel_rfl⟩
instance by191 : ByI Tryz.prog 191 8 := ⟨by kernel_rfl⟩
instance ud191 : UdI Tryz.prog 191 (.int .u64) := ⟨by kernel_rfl⟩
instance zc191 : ZcI Tryz.prog 191 [.int .u64 0] := ⟨.int .u64 0, by kernel_rfl, rfl, rfl⟩
instance ty193 : TyI Tryz.prog 193 false 1 := ⟨by kernel_rfl, by kernel_rfl⟩
instance no193 : NoI Tryz.prog 193 := ⟨by kernel_rfl⟩
instance by193 : ByI Tryz.prog 193 8 := ⟨by kernel_rfl⟩
instance zc193 : ZcI Tryz.prog 193 [.nfn] := ⟨.nilFunc, by kernel_rfl, rfl, rfl⟩
instance ty194 : TyI Tryz.prog 194 false 1 := ⟨by kernel_rfl, by kernel_rfl⟩
instance no194 : NoI Tryz.prog 194 := ⟨by kernel_rfl⟩
instance by194 : ByI Tryz.prog 194 8 := ⟨by kernel_rfl⟩
instance zc194 : ZcI Tryz.prog 194 [.nfn] := ⟨.nilFunc, by kernel_rfl, rfl, rfl⟩
instance ty196 : TyI Tryz.prog 196 false 1 := ⟨by kernel_rfl, by kernel_rfl⟩
instance no196 : NoI Tryz.prog 196 := ⟨by kernel_rfl⟩
instance by196 : ByI Tryz.prog 196 8 := ⟨by kernel_rfl⟩
instance zc196 : ZcI Tryz.prog 196 [.nfn] := ⟨.nilFunc, by kernel_rfl, rfl, rfl⟩
instance ty198 : TyI Tryz.prog 198 false 1 := ⟨by kernel_rfl, by kernel_rfl⟩
instance no198 : NoI Tryz.prog 198 := ⟨by kernel_rfl⟩
instance by198 : ByI Tryz.prog 198 8 := ⟨by kernel_rfl⟩
instance zc198 : ZcI Tryz.prog 198 [.nfn] := ⟨.nilFunc, by kernel_rfl, rfl, rfl⟩
instance ty199 : TyI Tryz.prog 199 false 1 := ⟨by kernel_rfl, by kernel_rfl⟩
instance no199 : NoI Tryz.prog 199 := ⟨by kernel_rfl⟩
instance by199 : ByI Tryz.prog 199 8 := ⟨by kernel_rfl⟩
instance zc199 : ZcI Tryz.prog 199 [.nfn] := ⟨.nilFunc, by kernel_rfl, rfl, rfl⟩
instance ty200 : TyI Tryz.prog 200 false 1 := ⟨by kernel_rfl, by kernel_rfl⟩
instance no200 : NoI Tryz.prog 200 := ⟨by kernel_rfl⟩
instance by200 : ByI Tryz.prog 200 8 := ⟨by kernel_rfl⟩
instance zc200 : ZcI Tryz.prog 200 [.nfn] := ⟨.nilFunc, by kernel_rfl, rfl, rfl⟩
instance ty201 : TyI Tryz.prog 201 false 1 := ⟨by kernel_rfl, by kernel_rfl⟩
instance no201 : NoI Tryz.prog 201 := ⟨by kernel_rfl⟩
instance by201 : ByI Tryz.prog 201 8 := ⟨by kernel_rfl⟩
instance zc201 : ZcI Tryz.prog 201 [.nfn] := ⟨.nilFunc, by kernel_rfl, rfl, rfl⟩
instance ty202 : TyI Tryz.prog 202 false 1 := ⟨by kernel_rfl, by kernel_rfl⟩
instance no202 : NoI Tryz.prog 202 := ⟨by kernel_rfl⟩
instance by202 : ByI Tryz.prog 202 8 := ⟨by kernel_rfl⟩
instance zc202 : ZcI Tryz.prog 202 [.nfn] := ⟨.nilFunc, by kernel_rfl, rfl, rfl⟩
instance ty203 : TyI Tryz.prog 203 false 1 := ⟨by kernel_rfl, by kernel_rfl⟩
instance no203 : NoI Tryz.prog 203 := ⟨by kernel_rfl⟩
instance by203 : ByI Tryz.prog 203 8 := ⟨by kernel_rfl⟩
instance zc203 : ZcI Tryz.prog 203 [.nfn] := ⟨.nilFunc, by kernel_rfl, rfl, rfl⟩
instance ty205 : TyI Tryz.prog 205 false 1 := ⟨by kernel_rfl, by kernel_rfl⟩
instance no205 : NoI Tryz.prog 205 := ⟨by kernel_rfl⟩
instance by205 : ByI Tryz.prog 205 8 := ⟨by kernel_rfl⟩
instance zc205 : ZcI Tryz.prog 205 [.nfn] := ⟨.nilFunc, by kernel_rfl, rfl, rfl⟩
instance ty207 : TyI Tryz.prog 207 false 1 := ⟨by kernel_rfl, by kernel_rfl⟩
instance no207 : NoI Tryz.prog 207 := ⟨by kernel_rfl⟩
instance by207 : ByI Tryz.prog 207 8 := ⟨by kernel_rfl⟩
instance zc207 : ZcI Tryz.prog 207 [.nfn] := ⟨.nilFunc, by kernel_rfl, rfl, rfl⟩
instance ty208 : TyI Tryz.prog 208 false 1 := ⟨by kernel_rfl, by kernel_rfl⟩
instance no208 : NoI Tryz.prog 208 := ⟨by kernel_rfl⟩
instance by208 : ByI Tryz.prog 208 8 := ⟨by kernel_rfl⟩
instance zc208 : ZcI Tryz.prog 208 [.nfn] := ⟨.nilFunc, by kernel_rfl, rfl, rfl⟩
instance ty209 : TyI Tryz.prog 209 false 1 := ⟨by kernel_rfl, by kernel_rfl⟩
instance no209 : NoI Tryz.prog 209 := ⟨by kernel_rfl⟩
instance by209 : ByI Tryz.prog 209 8 := ⟨by kernel_rfl⟩
instance zc209 : ZcI Tryz.prog 209 [.nfn] := ⟨.nilFunc, by kernel_rfl, rfl, rfl⟩
instance ty210 : TyI Tryz.prog 210 false 1 := ⟨by kernel_rfl, by kernel_rfl⟩
instance no210 : NoI Tryz.prog 210 := ⟨by kernel_rfl⟩
instance by210 : ByI Tryz.prog 210 8 := ⟨by kernel_rfl⟩
instance zc210 : ZcI Tryz.prog 210 [.nfn] := ⟨.nilFunc, by kernel_rfl, rfl, rfl⟩
instance ty211 : TyI Tryz.prog 211 false 1 := ⟨by kernel_rfl, by kernel_rfl⟩
instance no211 : NoI Tryz.prog 211 := ⟨by kernel_rfl⟩
instance by211 : ByI Tryz.prog 211 8 := ⟨by kernel_rfl⟩
instance zc211 : ZcI Tryz.prog 211 [.nfn] := ⟨.nilFunc, by kernel_rfl, rfl, rfl⟩
instance ty212 : TyI Tryz.prog 212 false 1 := ⟨by kernel_rfl, by kernel_rfl⟩
instance no212 : NoI Tryz.prog 212 := ⟨by kernel_rfl⟩
instance by212 : ByI Tryz.prog 212 8 := ⟨by kernel_rfl⟩
instance zc212 : ZcI Tryz.prog 212 [.nfn] := ⟨.nilFunc, by kernel_rfl, rfl, rfl⟩
instance ty213 : TyI Tryz.prog 213 false 1 := ⟨by kernel_rfl, by kernel_rfl⟩
instance no213 : NoI Tryz.prog 213 := ⟨by kernel_rfl⟩
instance by213 : ByI Tryz.prog 213 8 := ⟨by kernel_rfl⟩
instance zc213 : ZcI Tryz.prog 213 [.nfn] := ⟨.nilFunc, by kernel_rfl, rfl, rfl⟩
instance ty214 : TyI Tryz.prog 214 false 1 := ⟨by kernel_rfl, by kernel_rfl⟩
instance no214 : NoI Tryz.prog 214 := ⟨by kernel_rfl⟩
instance by214 : ByI Tryz.prog 214 8 := ⟨by kernel_rfl⟩
instance zc214 : ZcI Tryz.prog 214 [.nfn] := ⟨.nilFunc, by kernel_rfl, rfl, rfl⟩
instance ty215 : TyI Tryz.prog 215 true 64 := ⟨by kernel_rfl, by kernel_rfl⟩
instance no215 : NoI Tryz.prog 215 := ⟨by kernel_rfl⟩
instance by215 : ByI Tryz.prog 215 64 := ⟨by kernel_rfl⟩
instance ar215 : ArI Tryz.prog 215 64 5 := ⟨by kernel_rfl⟩
instance zc215 : ZcI Tryz.prog 215 [.int .u8 0, .int .u8 0, .int .u8 0, .int .u8 0, .int .u8 0, .int .u8 0, .int .u8 0, .int .u8 0, .int .u8 0, .int .u8 0, .int .u8 0, .int .u8 0, .int .u8 0, .int .u8 0, .int .u8 0, .int .u8 0, .int .u8 0, .int .u8 0, .int .u8 0, .int .u8 0, .int .u8 0, .int .u8 0, .int .u8 0, .int .u8 0, .int .u8 0, .int .u8 0, .int .u8 0, .int .u8 0, .int .u8 0, .int .u8 0, .int .u8 0, .int .u8 0, .int .u8 0, .int .u8 0, .int .u8 0, .int .u8 0, .int .u8 0, .int .u8 0, .int .u8 0, .int .u8 0, .int .u8 0, .int .u8 0, .int .u8 0, .int .u8 0, .int .u8 0, .int .u8 0, .int .u8 0, .int .u8 0, .int .u8 0, .int .u8 0, .int .u8 0, .int .u8 0, .int .u8 0, .int .u8 0, .int .u8 0, .int .u8 0, .int .u8 0, .int .u8 0, .int .u8 0, .int .u8 0, .int .u8 0, .int .u8 0, .int .u8 0, .int .u8 0] := ⟨.agg #[.int .u8 0, .int .u8 0, .int .u8 0, .int .u8 0, .int .u8 0, .int .u8 0, .int .u8 0, .int .u8 0, .int .u8 0, .int .u8 0, .int .u8 0, .int .u8 0, .int .u8 0, .int .u8 0, .int .u8 0, .int .u8 0, .int .u8 0, .int .u8 0, .int .u8 0, .int .u8 0, .int .u8 0, .int .u8 0, .int .u8 0, .int .u8 0, .int .u8 0, .int .u8 0, .int .u8 0, .int .u8 0, .int .u8 0, .int .u8 0, .int .u8 0, .int .u8 0, .int .u8 0, .int .u8 0, .int .u8 0, .int .u8 0, .int .u8 0, .int .u8 0, .int .u8 0, .int .u8 0, .int .u8 0, .int .u8 0, .int .u8 0, .int .u8 0, .int .u8 0, .int .u8 0, .int .u8 0, .int .u8 0, .int .u8 0, .int .u8 0, .int .u8 0, .int .u8 0, .int .u8 0, .int .u8 0, .int .u8 0, .int .u8 0, .int .u8 0, .int .u8 0, .int .u8 0, .int .u8 0, .int .u8 0, .int .u8 0, .int .u8 0, .int .u8 0], by kernel_rfl, rfl, rfl⟩
instance ty216 : TyI Tryz.prog 216 false 1 := ⟨by kernel_rfl, by kernel_rfl⟩
instance no216 : NoI Tryz.prog 216 := ⟨by kernel_rfl⟩
instance by216 : ByI Tryz.prog 216 8 := ⟨by kernel_rfl⟩
instance zc216 : ZcI Tryz.prog 216 [.nfn] := ⟨.nilFunc, by kernel_rfl, rfl, rfl⟩
instance ty217 : TyI Tryz.prog 217 false 1 := ⟨by kernel_rfl, by kernel_rfl⟩
instance no217 : NoI Tryz.prog 217 := ⟨by kernel_rfl⟩
instance by217 : ByI Tryz.prog 217 8 := ⟨by kernel_rfl⟩
instance zc217 : ZcI Tryz.prog 217 [.nfn] := ⟨.nilFunc, by kernel_rfl, rfl, rfl⟩
instance ty218 : TyI Tryz.prog 218 false 1 := ⟨by kernel_rfl, by kernel_rfl⟩
instance no218 : NoI Tryz.prog 218 := ⟨by kernel_rfl⟩
instance by218 : ByI Tryz.prog 218 8 := ⟨by kernel_rfl⟩
instance zc218 : ZcI Tryz.prog 218 [.nfn] := ⟨.nilFunc, by kernel_rfl, rfl, rfl⟩
instance ty219 : TyI Tryz.prog 219 true 49 := ⟨by kernel_rfl, by kernel_rfl⟩
instance no219 : NoI Tryz.prog 219 := ⟨by kernel_rfl⟩
instance by219 : ByI Tryz.prog 219 392 := ⟨by kernel_rfl⟩
instance ar219 : ArI Tryz.prog 219 7 29 := ⟨by kernel_rfl⟩
instance zc219 : ZcI Tryz.prog 219 [.int .i64 0, .int .i64 0, .int .i64 0, .int .i64 0, .int .i64 0, .int .i64 0, .int .i64 0, .int .i64 0, .int .i64 0, .int .i64 0, .int .i64 0, .int .i64 0, .int .i64 0, .int .i64 0, .int .i64 0, .int .i64 0, .int .i64 0, .int .i64 0, .int .i64 0, .int .i64 0, .int .i64 0, .int .i64 0, .int .i64 0, .int .i64 0, .int .i64 0, .int .i64 0, .int .i64 0, .int .i64 0, .int .i64 0, .int .i64 0, .int .i64 0, .int .i64 0, .int .i64 0, .int .i64 0, .int .i64 0, .int .i64 0, .int .i64 0, .int .i64 0, .int .i64 0, .int .i64 0, .int .i64 0, .int .i64 0, .int .i64 0, .int .i64 0, .int .i64 0, .int .i64 0, .int .i64 0, .int .i64 0, .int .i64 0] := ⟨.agg #[.int .i64 0, .int .i64 0, .int .i64 0, .int .i64 0, .int .i64 0, .int .i64 0, .int .i64 0, .int .i64 0, .int .i64 0, .int .i64 0, .int .i64 0, .int .i64 0, .int .i64 0, .int .i64 0, .int .i64 0, .int .i64 0, .int .i64 0, .int .i64 0, .int .i64 0, .int .i64 0, .int .i64 0, .int .i64 0, .int .i64 0, .int .i64 0, .int .i64 0, .int .i64 0, .int .i64 0, .int .i64 0, .int .i64 0, .int .i64 0, .int .i64 0, .int .i64 0, .int .i64 0, .int .i64 0, .int .i64 0, .int .i64 0, .int .i64 0, .int .i64 0, .int .i64 0, .int .i64 0, .int .i64 0, .int .i64 0, .int .i64 0, .int .i64 0, .int .i64 0, .int .i64 0, .int .i64 0, .int .i64 0, .int .i64 0], by kernel_rfl, rfl, rfl⟩
instance ty220 : TyI Tryz.prog 220 false 1 := ⟨by kernel_rfl, by kernel_rfl⟩
instance no220 : NoI Tryz.prog 220 := ⟨by kernel_rfl⟩
instance by220 : ByI Tryz.prog 220 8 := ⟨by kernel_rfl⟩
instance zc220 : ZcI Tryz.prog 220 [.nfn] := ⟨.nilFunc, by kernel_rfl, rfl, rfl⟩
instance ty221 : TyI Tryz.prog 221 false 1 := ⟨by kernel_rfl, by kernel_rfl⟩
instance no221 : NoI Tryz.prog 221 := ⟨by kernel_rfl⟩
instance by221 : ByI Tryz.prog 221 8 := ⟨by kernel_rfl⟩
instance zc221 : ZcI Tryz.prog 221 [.nfn] := ⟨.nilFunc, by kernel_rfl, rfl, rfl⟩
instance ty222 : TyI Tryz.prog 222 false 1 := ⟨by kernel_rfl, by kernel_rfl⟩
instance no222 : NoI Tryz.prog 222 := ⟨by kernel_rfl⟩
instance by222 : ByI Tryz.prog 222 8 := ⟨by kernel_rfl⟩
instance zc222 : ZcI Tryz.prog 222 [.nfn] := ⟨.nilFunc, by kernel_rfl, rfl, rfl⟩
instance ty223 : TyI Tryz.prog 223 false 1 := ⟨by kernel_rfl, by kernel_rfl⟩
instance no223 : NoI Tryz.prog 223 := ⟨by kernel_rfl⟩
instance by223 : ByI Tryz.prog 223 8 := ⟨by kernel_rfl⟩
instance zc223 : ZcI Tryz.prog 223 [.nptr] := ⟨.pointer none, by kernel_rfl, rfl, rfl⟩
instance ty224 : TyI Tryz.prog 224 false 1 := ⟨by kernel_rfl, by kernel_rfl⟩
instance no224 : NoI Tryz.prog 224 := ⟨by kernel_rfl⟩
instance by224 : ByI Tryz.prog 224 8 := ⟨by kernel_rfl⟩
instance zc224 : ZcI Tryz.prog 224 [.nfn] := ⟨.nilFunc, by kernel_rfl, rfl, rfl⟩
instance ty225 : TyI Tryz.prog 225 false 1 := ⟨by kernel_rfl, by kernel_rfl⟩
instance no225 : NoI Tryz.prog 225 := ⟨by kernel_rfl⟩
instance by225 : ByI Tryz.prog 225 8 := ⟨by kernel_rfl⟩
instance zc225 : ZcI Tryz.prog 225 [.nfn] := ⟨.nilFunc, by kernel_rfl, rfl, rfl⟩
instance ty226 : TyI Tryz.prog 226 false 1 := ⟨by kernel_rfl, by kernel_rfl⟩
instance no226 : NoI Tryz.prog 226 := ⟨by kernel_rfl⟩
instance by226 : ByI Tryz.prog 226 8 := ⟨by kernel_rfl⟩
instance zc226 : ZcI Tryz.prog 226 [.nfn] := ⟨.nilFunc, by kernel_rfl, rfl, rfl⟩
instance ty227 : TyI Tryz.prog 227 false 1 := ⟨by kernel_rfl, by kernel_rfl⟩
instance no227 : NoI Tryz.prog 227 := ⟨by kernel_rfl⟩
instance by227 : ByI Tryz.prog 227 24 := ⟨by kernel_rfl⟩
instance sl227 : SlI Tryz.prog 227 2 := ⟨by kernel_rfl⟩
instance ni227 : NiI Tryz.prog 227 := ⟨.inl ⟨2, by kernel_rfl⟩⟩
instance zc227 : ZcI Tryz.prog 227 [.nsl] := ⟨.slice none 0 0, by kernel_rfl, rfl, rfl⟩
instance ty228 : TyI Tryz.prog 228 false 1 := ⟨by kernel_rfl, by kernel_rfl⟩
instance no228 : NoI Tryz.prog 228 := ⟨by kernel_rfl⟩
instance by228 : ByI Tryz.prog 228 8 := ⟨by kernel_rfl⟩
instance zc228 : ZcI Tryz.prog 228 [.nfn] := ⟨.nilFunc, by kernel_rfl, rfl, rfl⟩
instance ty229 : TyI Tryz.prog 229 false 1 := ⟨by kernel_rfl, by kernel_rfl⟩
instance no229 : NoI Tryz.prog 229 := ⟨by kernel_rfl⟩
instance by229 : ByI Tryz.prog 229 8 := ⟨by kernel_rfl⟩
instance zc229 : ZcI Tryz.prog 229 [.nfn] := ⟨.nilFunc, by kernel_rfl, rfl, rfl⟩
instance ty230 : TyI Tryz.prog 230 false 1 := ⟨by kernel_rfl, by kernel_rfl⟩
instance no230 : NoI Tryz.prog 230 := ⟨by kernel_rfl⟩
instance by230 : ByI Tryz.prog 230 24 := ⟨by kernel_rfl⟩
instance sl230 : SlI Tryz.prog 230 23 := ⟨by kernel_rfl⟩
instance ni230 : NiI Tryz.prog 230 := ⟨.inl ⟨23, by kernel_rfl⟩⟩
instance zc230 : ZcI Tryz.prog 230 [.nsl] := ⟨.slice none 0 0, by kernel_rfl, rfl, rfl⟩
instance ty231 : TyI Tryz.prog 231 true 10 := ⟨by kernel_rfl, by kernel_rfl⟩
instance no231 : NoI Tryz.prog 231 := ⟨by kernel_rfl⟩
instance by231 : ByI Tryz.prog 231 136 := ⟨by kernel_rfl⟩
instance fl231_0 : FldI Tryz.prog 231 0 0 22 := ⟨by kernel_rfl⟩
instance fl231_1 : FldI Tryz.prog 231 1 1 134 := ⟨by kernel_rfl⟩
instance fl231_2 : FldI Tryz.prog 231 2 2 230 := ⟨by kernel_rfl⟩
instance fl231_3 : FldI Tryz.prog 231 3 3 50 := ⟨by kernel_rfl⟩
instance st231 : StI Tryz.prog 231 [(0, 1), (1, 1), (2, 1), (3, 7)] := ⟨by kernel_rfl⟩
instance zc231 : ZcI Tryz.prog 231 [.nsl, .nsl, .nsl, .int .i64 0, .int .i64 0, .int .i64 0, .str ⟨#[]⟩, .bool false, .int .i64 0, .int .i64 0] := ⟨.agg #[.slice none 0 0, .slice none 0 0, .slice none 0 0, .int .i64 0, .int .i64 0, .int .i64 0, .string ⟨#[]⟩, .bool false, .int .i64 0, .int .i64 0], by kernel_rfl, rfl, rfl⟩
instance ty232 : TyI Tryz.prog 232 true 10 := ⟨by kernel_rfl, by kernel_rfl⟩
instance no232 : NoI Tryz.prog 232 := ⟨by kernel_rfl⟩
instance by232 : ByI Tryz.prog 232 136 := ⟨by kernel_rfl⟩
instance fl232_0 : FldI Tryz.prog 232 0 0 22 := ⟨by kernel_rfl⟩
instance fl232_1 : FldI Tryz.prog 232 1 1 134 := ⟨by kernel_rfl⟩
instance fl232_2 : FldI Tryz.prog 232 2 2 230 := ⟨by kernel_rfl⟩
instance fl232_3 : FldI Tryz.prog 232 3 3 50 := ⟨by kernel_rfl⟩
instance st232 : StI Tryz.prog 232 [(0, 1), (1, 1), (2, 1), (3, 7)] := ⟨by kernel_rfl⟩
instance zc232 : ZcI Tryz.prog 232 [.nsl, .nsl, .nsl, .int .i64 0, .int .i64 0, .int .i64 0, .str ⟨#[]⟩, .bool false, .int .i64 0, .int .i64 0] := ⟨.agg #[.slice none 0 0, .slice none 0 0, .slice none 0 0, .int .i64 0, .int .i64 0, .int .i64 0, .string ⟨#[]⟩, .bool false, .int .i64 0, .int .i64 0], by kernel_rfl, rfl, rfl⟩
instance ty233 : TyI Tryz.prog 233 false 1 := ⟨by kernel_rfl, by kernel_rfl⟩
instance no233 : NoI Tryz.prog 233 := ⟨by kernel_rfl⟩
instance by233 : ByI Tryz.prog 233 8 := ⟨by kernel_rfl⟩
instance zc233 : ZcI Tryz.prog 233 [.nfn] := ⟨.nilFunc, by kernel_rfl, rfl, rfl⟩
instance ty234 : TyI Tryz.prog 234 false 1 := ⟨by kernel_rfl, by kernel_rfl⟩
instance no234 : NoI Tryz.prog 234 := ⟨by kernel_rfl⟩
instance by234 : ByI Tryz.prog 234 8 := ⟨by kernel_rfl⟩
instance zc234 : ZcI Tryz.prog 234 [.nfn] := ⟨.nilFunc, by kernel_rfl, rfl, rfl⟩
instance ty235 : TyI Tryz.prog 235 false 1 := ⟨by kernel_rfl, by kernel_rfl⟩
instance no235 : NoI Tryz.prog 235 := ⟨by kernel_rfl⟩
instance by235 : ByI Tryz.prog 235 8 := ⟨by kernel_rfl⟩
instance zc235 : ZcI Tryz.prog 235 [.nfn] := ⟨.nilFunc, by kernel_rfl, rfl, rfl⟩
instance ty236 : TyI Tryz.prog 236 false 1 := ⟨by kernel_rfl, by kernel_rfl⟩
instance no236 : NoI Tryz.prog 236 := ⟨by kernel_rfl⟩
instance by236 : ByI Tryz.prog 236 8 := ⟨by kernel_rfl⟩
instance zc236 : ZcI Tryz.prog 236 [.nfn] := ⟨.nilFunc, by kernel_rfl, rfl, rfl⟩
instance ty237 : TyI Tryz.prog 237 false 1 := ⟨by kernel_rfl, by kernel_rfl⟩
instance no237 : NoI Tryz.prog 237 := ⟨by kernel_rfl⟩
instance by237 : ByI Tryz.prog 237 8 := ⟨by kernel_rfl⟩
instance zc237 : ZcI Tryz.prog 237 [.nfn] := ⟨.nilFunc, by kernel_rfl, rfl, rfl⟩
instance ty238 : TyI Tryz.prog 238 false 1 := ⟨by kernel_rfl, by kernel_rfl⟩
instance no238 : NoI Tryz.prog 238 := ⟨by kernel_rfl⟩
instance by238 : ByI Tryz.prog 238 8 := ⟨by kernel_rfl⟩
instance zc238 : ZcI Tryz.prog 238 [.nfn] := ⟨.nilFunc, by kernel_rfl, rfl, rfl⟩
instance ty239 : TyI Tryz.prog 239 false 1 := ⟨by kernel_rfl, by kernel_rfl⟩
instance no239 : NoI Tryz.prog 239 := ⟨by kernel_rfl⟩
instance by239 : ByI Tryz.prog 239 8 := ⟨by kernel_rfl⟩
instance zc239 : ZcI Tryz.prog 239 [.nfn] := ⟨.nilFunc, by kernel_rfl, rfl, rfl⟩
instance ty240 : TyI Tryz.prog 240 false 1 := ⟨by kernel_rfl, by kernel_rfl⟩
instance no240 : NoI Tryz.prog 240 := ⟨by kernel_rfl⟩
instance by240 : ByI Tryz.prog 240 8 := ⟨by kernel_rfl⟩
instance zc240 : ZcI Tryz.prog 240 [.nfn] := ⟨.nilFunc, by kernel_rfl, rfl, rfl⟩
instance ty241 : TyI Tryz.prog 241 false 1 := ⟨by kernel_rfl, by kernel_rfl⟩
instance no241 : NoI Tryz.prog 241 := ⟨by kernel_rfl⟩
instance by241 : ByI Tryz.prog 241 8 := ⟨by kernel_rfl⟩
instance zc241 : ZcI Tryz.prog 241 [.nfn] := ⟨.nilFunc, by kernel_rfl, rfl, rfl⟩
instance ty242 : TyI Tryz.prog 242 false 1 := ⟨by kernel_rfl, by kernel_rfl⟩
instance no242 : NoI Tryz.prog 242 := ⟨by kernel_rfl⟩
instance by242 : ByI Tryz.prog 242 8 := ⟨by kernel_rfl⟩
instance ud242 : UdI Tryz.prog 242 (.int .i64) := ⟨by kernel_rfl⟩
instance zc242 : ZcI Tryz.prog 242 [.int .i64 0] := ⟨.int .i64 0, by kernel_rfl, rfl, rfl⟩
instance ty244 : TyI Tryz.prog 244 false 1 := ⟨by kernel_rfl, by kernel_rfl⟩
instance no244 : NoI Tryz.prog 244 := ⟨by kernel_rfl⟩
instance by244 : ByI Tryz.prog 244 8 := ⟨by kernel_rfl⟩
instance zc244 : ZcI Tryz.prog 244 [.nfn] := ⟨.nilFunc, by kernel_rfl, rfl, rfl⟩
instance ty245 : TyI Tryz.prog 245 false 1 := ⟨by kernel_rfl, by kernel_rfl⟩
instance no245 : NoI Tryz.prog 245 := ⟨by kernel_rfl⟩
instance by245 : ByI Tryz.prog 245 8 := ⟨by kernel_rfl⟩
instance zc245 : ZcI Tryz.prog 245 [.nfn] := ⟨.nilFunc, by kernel_rfl, rfl, rfl⟩
instance ty246 : TyI Tryz.prog 246 false 1 := ⟨by kernel_rfl, by kernel_rfl⟩
instance no246 : NoI Tryz.prog 246 := ⟨by kernel_rfl⟩
instance by246 : ByI Tryz.prog 246 8 := ⟨by kernel_rfl⟩
instance zc246 : ZcI Tryz.prog 246 [.nfn] := ⟨.nilFunc, by kernel_rfl, rfl, rfl⟩
instance ty247 : TyI Tryz.prog 247 false 1 := ⟨by kernel_rfl, by kernel_rfl⟩
instance no247 : NoI Tryz.prog 247 := ⟨by kernel_rfl⟩
instance by247 : ByI Tryz.prog 247 8 := ⟨by kernel_rfl⟩
instance zc247 : ZcI Tryz.prog 247 [.nfn] := ⟨.nilFunc, by kernel_rfl, rfl, rfl⟩
instance ty248 : TyI Tryz.prog 248 false 1 := ⟨by kernel_rfl, by kernel_rfl⟩
instance no248 : NoI Tryz.prog 248 := ⟨by kernel_rfl⟩
instance by248 : ByI Tryz.prog 248 8 := ⟨by kernel_rfl⟩
instance zc248 : ZcI Tryz.prog 248 [.nfn] := ⟨.nilFunc, by kernel_rfl, rfl, rfl⟩
instance ty249 : TyI Tryz.prog 249 false 1 := ⟨by kernel_rfl, by kernel_rfl⟩
instance no249 : NoI Tryz.prog 249 := ⟨by kernel_rfl⟩
instance by249 : ByI Tryz.prog 249 8 := ⟨by kernel_rfl⟩
instance zc249 : ZcI Tryz.prog 249 [.nfn] := ⟨.nilFunc, by kernel_rfl, rfl, rfl⟩
instance ty250 : TyI Tryz.prog 250 false 1 := ⟨by kernel_rfl, by kernel_rfl⟩
instance no250 : NoI Tryz.prog 250 := ⟨by kernel_rfl⟩
instance by250 : ByI Tryz.prog 250 4 := ⟨by kernel_rfl⟩
instance ud250 : UdI Tryz.prog 250 (.int .u32) := ⟨by kernel_rfl⟩
instance zc250 : ZcI Tryz.prog 250 [.int .u32 0] := ⟨.int .u32 0, by kernel_rfl, rfl, rfl⟩
instance ty251 : TyI Tryz.prog 251 false 1 := ⟨by kernel_rfl, by kernel_rfl⟩
instance no251 : NoI Tryz.prog 251 := ⟨by kernel_rfl⟩
instance by251 : ByI Tryz.prog 251 8 := ⟨by kernel_rfl⟩
instance ud251 : UdI Tryz.prog 251 (.int .u64) := ⟨by kernel_rfl⟩
instance zc251 : ZcI Tryz.prog 251 [.int .u64 0] := ⟨.int .u64 0, by kernel_rfl, rfl, rfl⟩
instance ty252 : TyI Tryz.prog 252 false 1 := ⟨by kernel_rfl, by kernel_rfl⟩
instance no252 : NoI Tryz.prog 252 := ⟨by kernel_rfl⟩
instance by252 : ByI Tryz.prog 252 8 := ⟨by kernel_rfl⟩
instance zc252 : ZcI Tryz.prog 252 [.nfn] := ⟨.nilFunc, by kernel_rfl, rfl, rfl⟩
instance ty253 : TyI Tryz.prog 253 false 1 := ⟨by kernel_rfl, by kernel_rfl⟩
instance no253 : NoI Tryz.prog 253 := ⟨by kernel_rfl⟩
instance by253 : ByI Tryz.prog 253 8 := ⟨by kernel_rfl⟩
instance zc253 : ZcI Tryz.prog 253 [.nfn] := ⟨.nilFunc, by kernel_rfl, rfl, rfl⟩
instance ty254 : TyI Tryz.prog 254 false 1 := ⟨by kernel_rfl, by kernel_rfl⟩
instance no254 : NoI Tryz.prog 254 := ⟨by kernel_rfl⟩
instance by254 : ByI Tryz.prog 254 8 := ⟨by kernel_rfl⟩
instance zc254 : ZcI Tryz.prog 254 [.nfn] := ⟨.nilFunc, by kernel_rfl, rfl, rfl⟩
instance ty255 : TyI Tryz.prog 255 false 1 := ⟨by kernel_rfl, by kernel_rfl⟩
instance no255 : NoI Tryz.prog 255 := ⟨by kernel_rfl⟩
instance by255 : ByI Tryz.prog 255 8 := ⟨by kernel_rfl⟩
instance zc255 : ZcI Tryz.prog 255 [.nfn] := ⟨.nilFunc, by kernel_rfl, rfl, rfl⟩
instance ty256 : TyI Tryz.prog 256 false 1 := ⟨by kernel_rfl, by kernel_rfl⟩
instance no256 : NoI Tryz.prog 256 := ⟨by kernel_rfl⟩
instance by256 : ByI Tryz.prog 256 8 := ⟨by kernel_rfl⟩
instance zc256 : ZcI Tryz.prog 256 [.nptr] := ⟨.pointer none, by kernel_rfl, rfl, rfl⟩
instance ty258 : TyI Tryz.prog 258 false 1 := ⟨by kernel_rfl, by kernel_rfl⟩
instance no258 : NoI Tryz.prog 258 := ⟨by kernel_rfl⟩
instance by258 : ByI Tryz.prog 258 8 := ⟨by kernel_rfl⟩
instance zc258 : ZcI Tryz.prog 258 [.nfn] := ⟨.nilFunc, by kernel_rfl, rfl, rfl⟩
instance ty259 : TyI Tryz.prog 259 false 1 := ⟨by kernel_rfl, by kernel_rfl⟩
instance no259 : NoI Tryz.prog 259 := ⟨by kernel_rfl⟩
instance by259 : ByI Tryz.prog 259 8 := ⟨by kernel_rfl⟩
instance zc259 : ZcI Tryz.prog 259 [.nfn] := ⟨.nilFunc, by kernel_rfl, rfl, rfl⟩
instance ty265 : TyI Tryz.prog 265 false 1 := ⟨by kernel_rfl, by kernel_rfl⟩
instance no265 : NoI Tryz.prog 265 := ⟨by kernel_rfl⟩
instance by265 : ByI Tryz.prog 265 8 := ⟨by kernel_rfl⟩
instance zc265 : ZcI Tryz.prog 265 [.nfn] := ⟨.nilFunc, by kernel_rfl, rfl, rfl⟩
instance ty268 : TyI Tryz.prog 268 false 1 := ⟨by kernel_rfl, by kernel_rfl⟩
instance no268 : NoI Tryz.prog 268 := ⟨by kernel_rfl⟩
instance by268 : ByI Tryz.prog 268 8 := ⟨by kernel_rfl⟩
instance zc268 : ZcI Tryz.prog 268 [.nfn] := ⟨.nilFunc, by kernel_rfl, rfl, rfl⟩
instance ty269 : TyI Tryz.prog 269 false 1 := ⟨by kernel_rfl, by kernel_rfl⟩
instance no269 : NoI Tryz.prog 269 := ⟨by kernel_rfl⟩
instance by269 : ByI Tryz.prog 269 8 := ⟨by kernel_rfl⟩
instance zc269 : ZcI Tryz.prog 269 [.nptr] := ⟨.pointer none, by kernel_rfl, rfl, rfl⟩
instance fn3 : FnI Tryz.prog 3 := ⟨by kernel_rfl⟩
instance fn4 : FnI Tryz.prog 4 := ⟨by kernel_rfl⟩
instance fn5 : FnI Tryz.prog 5 := ⟨by kernel_rfl⟩
instance fn6 : FnI Tryz.prog 6 := ⟨by kernel_rfl⟩
instance fn7 : FnI Tryz.prog 7 := ⟨by kernel_rfl⟩
instance fn8 : FnI Tryz.prog 8 := ⟨by kernel_rfl⟩
instance fn9 : FnI Tryz.prog 9 := ⟨by kernel_rfl⟩
instance fn10 : FnI Tryz.prog 10 := ⟨by kernel_rfl⟩
instance fn11 : FnI Tryz.prog 11 := ⟨by kernel_rfl⟩
instance fn12 : FnI Tryz.prog 12 := ⟨by kernel_rfl⟩
instance fn13 : FnI Tryz.prog 13 := ⟨by kernel_rfl⟩
instance fn14 : FnI Tryz.prog 14 := ⟨by kernel_rfl⟩
instance fn15 : FnI Tryz.prog 15 := ⟨by kernel_rfl⟩
instance fn16 : FnI Tryz.prog 16 := ⟨by kernel_rfl⟩
instance fn17 : FnI Tryz.prog 17 := ⟨by kernel_rfl⟩
instance fn18 : FnI Tryz.prog 18 := ⟨by kernel_rfl⟩
instance fn19 : FnI Tryz.prog 19 := ⟨by kernel_rfl⟩
instance fn20 : FnI Tryz.prog 20 := ⟨by kernel_rfl⟩
instance fn21 : FnI Tryz.prog 21 := ⟨by kernel_rfl⟩
instance fn22 : FnI Tryz.prog 22 := ⟨by kernel_rfl⟩
instance fn23 : FnI Tryz.prog 23 := ⟨by kernel_rfl⟩
instance fn24 : FnI Tryz.prog 24 := ⟨by kernel_rfl⟩
instance fn25 : FnI Tryz.prog 25 := ⟨by kernel_rfl⟩
instance fn26 : FnI Tryz.prog 26 := ⟨by kernel_rfl⟩
instance fn27 : FnI Tryz.prog 27 := ⟨by kernel_rfl⟩
instance fn28 : FnI Tryz.prog 28 := ⟨by kernel_rfl⟩
instance fn29 : FnI Tryz.prog 29 := ⟨by kernel_rfl⟩
instance fn30 : FnI Tryz.prog 30 := ⟨by kernel_rfl⟩
instance fn31 : FnI Tryz.prog 31 := ⟨by kernel_rfl⟩
instance fn32 : FnI Tryz.prog 32 := ⟨by kernel_rfl⟩
instance fn33 : FnI Tryz.prog 33 := ⟨by kernel_rfl⟩
instance fn34 : FnI Tryz.prog 34 := ⟨by kernel_rfl⟩
instance fn35 : FnI Tryz.prog 35 := ⟨by kernel_rfl⟩
instance fn36 : FnI Tryz.prog 36 := ⟨by kernel_rfl⟩
instance fn37 : FnI Tryz.prog 37 := ⟨by kernel_rfl⟩
instance fn38 : FnI Tryz.prog 38 := ⟨by kernel_rfl⟩
instance fn39 : FnI Tryz.prog 39 := ⟨by kernel_rfl⟩
instance fn40 : FnI Tryz.prog 40 := ⟨by kernel_rfl⟩
instance fn41 : FnI Tryz.prog 41 := ⟨by kernel_rfl⟩
instance fn42 : FnI Tryz.prog 42 := ⟨by kernel_rfl⟩
instance fn43 : FnI Tryz.prog 43 := ⟨by kernel_rfl⟩
instance fn44 : FnI Tryz.prog 44 := ⟨by kernel_rfl⟩
instance fn45 : FnI Tryz.prog 45 := ⟨by kernel_rfl⟩
instance fn46 : FnI Tryz.prog 46 := ⟨by kernel_rfl⟩
instance fn47 : FnI Tryz.prog 47 := ⟨by kernel_rfl⟩
instance fn48 : FnI Tryz.prog 48 := ⟨by kernel_rfl⟩
instance fn49 : FnI Tryz.prog 49 := ⟨by kernel_rfl⟩
instance fn50 : FnI Tryz.prog 50 := ⟨by kernel_rfl⟩
instance fn51 : FnI Tryz.prog 51 := ⟨by kernel_rfl⟩
instance fn52 : FnI Tryz.prog 52 := ⟨by kernel_rfl⟩
instance fn53 : FnI Tryz.prog 53 := ⟨by kernel_rfl⟩
instance fn54 : FnI Tryz.prog 54 := ⟨by kernel_rfl⟩
instance fn55 : FnI Tryz.prog 55 := ⟨by kernel_rfl⟩
instance fn56 : FnI Tryz.prog 56 := ⟨by kernel_rfl⟩
instance fn57 : FnI Tryz.prog 57 := ⟨by kernel_rfl⟩
instance fn58 : FnI Tryz.prog 58 := ⟨by kernel_rfl⟩
instance fn59 : FnI Tryz.prog 59 := ⟨by kernel_rfl⟩
instance fn60 : FnI Tryz.prog 60 := ⟨by kernel_rfl⟩
instance fn61 : FnI Tryz.prog 61 := ⟨by kernel_rfl⟩
instance fn62 : FnI Tryz.prog 62 := ⟨by kernel_rfl⟩
instance fn63 : FnI Tryz.prog 63 := ⟨by kernel_rfl⟩
instance fn64 : FnI Tryz.prog 64 := ⟨by kernel_rfl⟩
instance fn65 : FnI Tryz.prog 65 := ⟨by kernel_rfl⟩
instance fn66 : FnI Tryz.prog 66 := ⟨by kernel_rfl⟩
instance fn67 : FnI Tryz.prog 67 := ⟨by kernel_rfl⟩
instance fn68 : FnI Tryz.prog 68 := ⟨by kernel_rfl⟩
instance fn69 : FnI Tryz.prog 69 := ⟨by kernel_rfl⟩
instance fn70 : FnI Tryz.prog 70 := ⟨by kernel_rfl⟩
instance fn71 : FnI Tryz.prog 71 := ⟨by kernel_rfl⟩
instance fn72 : FnI Tryz.prog 72 := ⟨by kernel_rfl⟩
instance fn73 : FnI Tryz.prog 73 := ⟨by kernel_rfl⟩
instance fn74 : FnI Tryz.prog 74 := ⟨by kernel_rfl⟩
instance fn75 : FnI Tryz.prog 75 := ⟨by kernel_rfl⟩
instance fn76 : FnI Tryz.prog 76 := ⟨by kernel_rfl⟩
instance fn77 : FnI Tryz.prog 77 := ⟨by kernel_rfl⟩
instance fn78 : FnI Tryz.prog 78 := ⟨by kernel_rfl⟩
instance fn79 : FnI Tryz.prog 79 := ⟨by kernel_rfl⟩
instance fn80 : FnI Tryz.prog 80 := ⟨by kernel_rfl⟩
instance fn81 : FnI Tryz.prog 81 := ⟨by kernel_rfl⟩
instance fn82 : FnI Tryz.prog 82 := ⟨by kernel_rfl⟩
instance fn83 : FnI Tryz.prog 83 := ⟨by kernel_rfl⟩
instance fn84 : FnI Tryz.prog 84 := ⟨by kernel_rfl⟩
instance fn85 : FnI Tryz.prog 85 := ⟨by kernel_rfl⟩
instance fn86 : FnI Tryz.prog 86 := ⟨by kernel_rfl⟩
instance fn87 : FnI Tryz.prog 87 := ⟨by kernel_rfl⟩
instance fn88 : FnI Tryz.prog 88 := ⟨by kernel_rfl⟩
instance fn89 : FnI Tryz.prog 89 := ⟨by kernel_rfl⟩
instance fn90 : FnI Tryz.prog 90 := ⟨by kernel_rfl⟩
instance fn91 : FnI Tryz.prog 91 := ⟨by kernel_rfl⟩
instance fn92 : FnI Tryz.prog 92 := ⟨by kernel_rfl⟩
instance fn93 : FnI Tryz.prog 93 := ⟨by kernel_rfl⟩
instance fn94 : FnI Tryz.prog 94 := ⟨by kernel_rfl⟩
instance fn95 : FnI Tryz.prog 95 := ⟨by kernel_rfl⟩
instance fn96 : FnI Tryz.prog 96 := ⟨by kernel_rfl⟩
instance fn97 : FnI Tryz.prog 97 := ⟨by kernel_rfl⟩
instance fn98 : FnI Tryz.prog 98 := ⟨by kernel_rfl⟩
instance fn99 : FnI Tryz.prog 99 := ⟨by kernel_rfl⟩
instance fn100 : FnI Tryz.prog 100 := ⟨by kernel_rfl⟩
instance fn101 : FnI Tryz.prog 101 := ⟨by kernel_rfl⟩
instance fn102 : FnI Tryz.prog 102 := ⟨by kernel_rfl⟩
instance fn103 : FnI Tryz.prog 103 := ⟨by kernel_rfl⟩
instance fn104 : FnI Tryz.prog 104 := ⟨by kernel_rfl⟩
instance fn105 : FnI Tryz.prog 105 := ⟨by kernel_rfl⟩
instance fn106 : FnI Tryz.prog 106 := ⟨by kernel_rfl⟩
instance fn107 : FnI Tryz.prog 107 := ⟨by kernel_rfl⟩
instance fn108 : FnI Tryz.prog 108 := ⟨by kernel_rfl⟩
instance fn109 : FnI Tryz.prog 109 := ⟨by kernel_rfl⟩
instance fn110 : FnI Tryz.prog 110 := ⟨by kernel_rfl⟩
instance fn111 : FnI Tryz.prog 111 := ⟨by kernel_rfl⟩
instance fn112 : FnI Tryz.prog 112 := ⟨by kernel_rfl⟩
instance fn113 : FnI Tryz.prog 113 := ⟨by kernel_rfl⟩
instance fn114 : FnI Tryz.prog 114 := ⟨by kernel_rfl⟩
instance fn115 : FnI Tryz.prog 115 := ⟨by kernel_rfl⟩
instance fn116 : FnI Tryz.prog 116 := ⟨by kernel_rfl⟩
instance fn117 : FnI Tryz.prog 117 := ⟨by kernel_rfl⟩
instance fn118 : FnI Tryz.prog 118 := ⟨by kernel_rfl⟩
instance fn119 : FnI Tryz.prog 119 := ⟨by kernel_rfl⟩
instance fn120 : FnI Tryz.prog 120 := ⟨by kernel_rfl⟩
instance fn121 : FnI Tryz.prog 121 := ⟨by kernel_rfl⟩
instance fn122 : FnI Tryz.prog 122 := ⟨by kernel_rfl⟩
instance fn123 : FnI Tryz.prog 123 := ⟨by kernel_rfl⟩
instance fn124 : FnI Tryz.prog 124 := ⟨by kernel_rfl⟩
instance fn125 : FnI Tryz.prog 125 := ⟨by kernel_rfl⟩
instance fn126 : FnI Tryz.prog 126 := ⟨by kernel_rfl⟩
instance fn127 : FnI Tryz.prog 127 := ⟨by kernel_rfl⟩
instance fn128 : FnI Tryz.prog 128 := ⟨by kernel_rfl⟩
instance fn129 : FnI Tryz.prog 129 := ⟨by kernel_rfl⟩
instance fn130 : FnI Tryz.prog 130 := ⟨by kernel_rfl⟩
instance fn131 : FnI Tryz.prog 131 := ⟨by kernel_rfl⟩
instance fn132 : FnI Tryz.prog 132 := ⟨by kernel_rfl⟩
instance fn133 : FnI Tryz.prog 133 := ⟨by kernel_rfl⟩
instance fn134 : FnI Tryz.prog 134 := ⟨by kernel_rfl⟩
instance fn135 : FnI Tryz.prog 135 := ⟨by kernel_rfl⟩
instance fn136 : FnI Tryz.prog 136 := ⟨by kernel_rfl⟩
instance fn137 : FnI Tryz.prog 137 := ⟨by kernel_rfl⟩
instance fn138 : FnI Tryz.prog 138 := ⟨by kernel_rfl⟩
instance fn139 : FnI Tryz.prog 139 := ⟨by kernel_rfl⟩
instance fn140 : FnI Tryz.prog 140 := ⟨by kernel_rfl⟩
instance fn141 : FnI Tryz.prog 141 := ⟨by kernel_rfl⟩
instance fn142 : FnI Tryz.prog 142 := ⟨by kernel_rfl⟩
instance fn143 : FnI Tryz.prog 143 := ⟨by kernel_rfl⟩
instance fn144 : FnI Tryz.prog 144 := ⟨by kernel_rfl⟩
instance fn145 : FnI Tryz.prog 145 := ⟨by kernel_rfl⟩
instance fn146 : FnI Tryz.prog 146 := ⟨by kernel_rfl⟩
instance fn147 : FnI Tryz.prog 147 := ⟨by kernel_rfl⟩
instance fn148 : FnI Tryz.prog 148 := ⟨by kernel_rfl⟩
instance fn149 : FnI Tryz.prog 149 := ⟨by kernel_rfl⟩
instance fn150 : FnI Tryz.prog 150 := ⟨by kernel_rfl⟩
instance fn151 : FnI Tryz.prog 151 := ⟨by kernel_rfl⟩
instance fn152 : FnI Tryz.prog 152 := ⟨by kernel_rfl⟩
instance fn153 : FnI Tryz.prog 153 := ⟨by kernel_rfl⟩
instance fn154 : FnI Tryz.prog 154 := ⟨by kernel_rfl⟩
instance fn155 : FnI Tryz.prog 155 := ⟨by kernel_rfl⟩
instance fn156 : FnI Tryz.prog 156 := ⟨by kernel_rfl⟩
instance fn157 : FnI Tryz.prog 157 := ⟨by kernel_rfl⟩
instance fn158 : FnI Tryz.prog 158 := ⟨by kernel_rfl⟩
instance fn159 : FnI Tryz.prog 159 := ⟨by kernel_rfl⟩
instance fn160 : FnI Tryz.prog 160 := ⟨by kernel_rfl⟩
instance fn161 : FnI Tryz.prog 161 := ⟨by kernel_rfl⟩
instance fn162 : FnI Tryz.prog 162 := ⟨by kernel_rfl⟩
instance fn163 : FnI Tryz.prog 163 := ⟨by kernel_rfl⟩
instance fn164 : FnI Tryz.prog 164 := ⟨by kernel_rfl⟩
instance fn165 : FnI Tryz.prog 165 := ⟨by kernel_rfl⟩
instance fn166 : FnI Tryz.prog 166 := ⟨by kernel_rfl⟩
instance fn167 : FnI Tryz.prog 167 := ⟨by kernel_rfl⟩
instance fn168 : FnI Tryz.prog 168 := ⟨by kernel_rfl⟩
instance fn169 : FnI Tryz.prog 169 := ⟨by kernel_rfl⟩
instance fn170 : FnI Tryz.prog 170 := ⟨by kernel_rfl⟩
instance fn171 : FnI Tryz.prog 171 := ⟨by kernel_rfl⟩
instance fn172 : FnI Tryz.prog 172 := ⟨by kernel_rfl⟩
instance fn173 : FnI Tryz.prog 173 := ⟨by kernel_rfl⟩
instance fn174 : FnI Tryz.prog 174 := ⟨by kernel_rfl⟩
instance fn175 : FnI Tryz.prog 175 := ⟨by kernel_rfl⟩
instance fn176 : FnI Tryz.prog 176 := ⟨by kernel_rfl⟩
instance fn177 : FnI Tryz.prog 177 := ⟨by kernel_rfl⟩
instance fn178 : FnI Tryz.prog 178 := ⟨by kernel_rfl⟩
instance fn179 : FnI Tryz.prog 179 := ⟨by kernel_rfl⟩
instance fn180 : FnI Tryz.prog 180 := ⟨by kernel_rfl⟩
instance fn181 : FnI Tryz.prog 181 := ⟨by kernel_rfl⟩
instance fn182 : FnI Tryz.prog 182 := ⟨by kernel_rfl⟩
instance fn183 : FnI Tryz.prog 183 := ⟨by kernel_rfl⟩
instance fn184 : FnI Tryz.prog 184 := ⟨by kernel_rfl⟩
instance fn185 : FnI Tryz.prog 185 := ⟨by kernel_rfl⟩
instance fn186 : FnI Tryz.prog 186 := ⟨by kernel_rfl⟩
instance fn187 : FnI Tryz.prog 187 := ⟨by kernel_rfl⟩
instance fn188 : FnI Tryz.prog 188 := ⟨by kernel_rfl⟩
instance fn189 : FnI Tryz.prog 189 := ⟨by kernel_rfl⟩
instance fn190 : FnI Tryz.prog 190 := ⟨by kernel_rfl⟩
instance fn191 : FnI Tryz.prog 191 := ⟨by kernel_rfl⟩
instance fn192 : FnI Tryz.prog 192 := ⟨by kernel_rfl⟩
instance fn193 : FnI Tryz.prog 193 := ⟨by kernel_rfl⟩
instance fn194 : FnI Tryz.prog 194 := ⟨by kernel_rfl⟩
instance fn195 : FnI Tryz.prog 195 := ⟨by kernel_rfl⟩
instance fn196 : FnI Tryz.prog 196 := ⟨by kernel_rfl⟩
instance fn197 : FnI Tryz.prog 197 := ⟨by kernel_rfl⟩
instance fn198 : FnI Tryz.prog 198 := ⟨by kernel_rfl⟩
instance fn199 : FnI Tryz.prog 199 := ⟨by kernel_rfl⟩
instance fn200 : FnI Tryz.prog 200 := ⟨by kernel_rfl⟩
instance fn201 : FnI Tryz.prog 201 := ⟨by kernel_rfl⟩
instance fn202 : FnI Tryz.prog 202 := ⟨by kernel_rfl⟩
instance fn203 : FnI Tryz.prog 203 := ⟨by kernel_rfl⟩
instance fn204 : FnI Tryz.prog 204 := ⟨by kernel_rfl⟩
instance fn205 : FnI Tryz.prog 205 := ⟨by kernel_rfl⟩
instance fn206 : FnI Tryz.prog 206 := ⟨by kernel_rfl⟩
instance fn207 : FnI Tryz.prog 207 := ⟨by kernel_rfl⟩
instance fn208 : FnI Tryz.prog 208 := ⟨by kernel_rfl⟩
instance fn209 : FnI Tryz.prog 209 := ⟨by kernel_rfl⟩
instance fn211 : FnI Tryz.prog 211 := ⟨by kernel_rfl⟩
instance fn212 : FnI Tryz.prog 212 := ⟨by kernel_rfl⟩
instance fn213 : FnI Tryz.prog 213 := ⟨by kernel_rfl⟩
instance fn214 : FnI Tryz.prog 214 := ⟨by kernel_rfl⟩
instance fn215 : FnI Tryz.prog 215 := ⟨by kernel_rfl⟩
instance fn216 : FnI Tryz.prog 216 := ⟨by kernel_rfl⟩
instance fn217 : FnI Tryz.prog 217 := ⟨by kernel_rfl⟩
instance fn218 : FnI Tryz.prog 218 := ⟨by kernel_rfl⟩
instance fn219 : FnI Tryz.prog 219 := ⟨by kernel_rfl⟩
instance fn221 : FnI Tryz.prog 221 := ⟨by kernel_rfl⟩
instance fn222 : FnI Tryz.prog 222 := ⟨by kernel_rfl⟩
instance fn223 : FnI Tryz.prog 223 := ⟨by kernel_rfl⟩
instance fn224 : FnI Tryz.prog 224 := ⟨by kernel_rfl⟩
instance fn225 : FnI Tryz.prog 225 := ⟨by kernel_rfl⟩
instance fn226 : FnI Tryz.prog 226 := ⟨by kernel_rfl⟩
instance fn227 : FnI Tryz.prog 227 := ⟨by kernel_rfl⟩
instance fn228 : FnI Tryz.prog 228 := ⟨by kernel_rfl⟩
instance fn229 : FnI Tryz.prog 229 := ⟨by kernel_rfl⟩
instance fn231 : FnI Tryz.prog 231 := ⟨by kernel_rfl⟩
instance fn232 : FnI Tryz.prog 232 := ⟨by kernel_rfl⟩
instance fn233 : FnI Tryz.prog 233 := ⟨by kernel_rfl⟩
instance fn234 : FnI Tryz.prog 234 := ⟨by kernel_rfl⟩
instance fn235 : FnI Tryz.prog 235 := ⟨by kernel_rfl⟩
instance fn236 : FnI Tryz.prog 236 := ⟨by kernel_rfl⟩
instance fn237 : FnI Tryz.prog 237 := ⟨by kernel_rfl⟩
instance fn238 : FnI Tryz.prog 238 := ⟨by kernel_rfl⟩
instance fn239 : FnI Tryz.prog 239 := ⟨by kernel_rfl⟩
instance fn240 : FnI Tryz.prog 240 := ⟨by kernel_rfl⟩
instance fn241 : FnI Tryz.prog 241 := ⟨by kernel_rfl⟩
instance fn242 : FnI Tryz.prog 242 := ⟨by kernel_rfl⟩
instance fn243 : FnI Tryz.prog 243 := ⟨by kernel_rfl⟩
instance fn244 : FnI Tryz.prog 244 := ⟨by kernel_rfl⟩
instance fn245 : FnI Tryz.prog 245 := ⟨by kernel_rfl⟩
instance fn246 : FnI Tryz.prog 246 := ⟨by kernel_rfl⟩
instance fn247 : FnI Tryz.prog 247 := ⟨by kernel_rfl⟩
instance fn248 : FnI Tryz.prog 248 := ⟨by kernel_rfl⟩
instance fn249 : FnI Tryz.prog 249 := ⟨by kernel_rfl⟩
instance fn250 : FnI Tryz.prog 250 := ⟨by kernel_rfl⟩
instance fn251 : FnI Tryz.prog 251 := ⟨by kernel_rfl⟩
instance fn252 : FnI Tryz.prog 252 := ⟨by kernel_rfl⟩
instance fn253 : FnI Tryz.prog 253 := ⟨by kernel_rfl⟩
theorem mixed : Tryz.prog.follows .mixedOrders = true := by kernel_rfl
end Go.Av

namespace Go.Av
open Go.Proofs
set_option maxRecDepth 10000
set_option linter.unusedSimpArgs false
set_option linter.unusedVariables false

/-! Letters of tags. -/
abbrev lets : ByteArray := ⟨#[97, 98, 99, 100, 101, 102, 103, 104, 105, 106, 107, 108, 109, 110, 111, 112, 113, 114, 115, 116, 117, 118, 119, 120, 121, 122, 48, 49, 50, 51, 52, 53, 54, 55, 56, 57]⟩
theorem slite_IndexByte (s : ByteArray) (c : Int) (H : Heap) : AC Tryz.prog 222 [.str s, .int .u8 c] H (Ret (.int .i64 (Lib.indexByte s.data.toList c.toNat.toUInt8)) H) := by
  refine AC.body (N := 8) [.tmp 4] Tryz.func222 rfl rfl rfl (Nat.le_of_ble_eq_true rfl) fun B hB => ?_
  refine Z8 ?_
  refine Z9 ?_
  refine Za ?_
  refine ao1 (by decide) (o_indexByteStr Tryz.func230 (by kernel_rfl) (by kernel_rfl) (by kernel_rfl) (by kernel_rfl) rfl rfl) ?_
  exact Ze
theorem strings_IndexByte (s : ByteArray) (c : Int) (H : Heap) : AC Tryz.prog 207 [.str s, .int .u8 c] H (Ret (.int .i64 (Lib.indexByte s.data.toList c.toNat.toUInt8)) H) := by
  refine AC.body (N := 8) [.tmp 4] Tryz.func207 rfl rfl rfl (Nat.le_of_ble_eq_true rfl) fun B hB => ?_
  refine Z8 ?_
  refine Z9 ?_
  refine Za ?_
  refine ao_ret (slite_IndexByte _ _ _) rfl (by decide) ?_
  exact Ze
theorem utf8_ValidRune (c : Int) (H : Heap) : AC Tryz.prog 208 [.int .i32 c] H (Ret (.bool (Utf8.valid c)) H) := by
  refine AC.body (N := 17) [.tmp 2] Tryz.func208 rfl rfl rfl (Nat.le_of_ble_eq_true rfl) fun B hB => ?_
  refine Zh ?_
  refine aw_out 3 (.bool (decide (0 ≤ c) && decide (c < 55296))) ?_ ?_
  · refine Za ?_
    refine Zk ?_
    refine ao_split rfl rfl (fun hg2 => ?_) (fun hg2 => ?_)
    · refine Zl ?_
      refine Zm ?_
      exact Zq
    · refine Zt ?_
      exact Zp
  refine Z1 ?_
  refine aw_cond rfl (fun hc => ?_) (fun hc => ?_)
  · refine Zh ?_
    rw [show Utf8.valid c = true by simp [Utf8.valid]; simp at hc; omega]
    exact Zd
  · refine Z1 ?_
    refine aw_out 10 (.bool (decide (57343 < c) && decide (c ≤ 1114111))) ?_ ?_
    · refine Zw ?_
      refine ao_split rfl rfl (fun hg2 => ?_) (fun hg2 => ?_)
      · refine Zy ?_
        exact Zq
      · refine Zt ?_
        exact Zp
    refine Z1 ?_
    refine aw_cond rfl (fun hc => ?_) (fun hc => ?_)
    · refine Zh ?_
      rw [show Utf8.valid c = true by simp [Utf8.valid]; simp at hc; omega]
      exact Zd
    · refine Zh ?_
      rw [show Utf8.valid c = false by simp [Utf8.valid]; simp at *; omega]
      exact Zd
end Go.Av

namespace Go.Av
open Go.Proofs
set_option maxRecDepth 10000
set_option linter.unusedSimpArgs false
set_option linter.unusedVariables false

theorem lets_low : ∀ i : Nat, i < 36 → (lets.get! i).toNat < 128 := by decide +kernel
theorem lets_get : ∀ i : Nat, i < 36 → lets[i]? = some (lets.get! i) := by decide +kernel
theorem lets_size : lets.size = 36 := by decide +kernel
def ixl (c : Int) : Int := if c < 128 then Lib.indexByte lets.data.toList c.toNat.toUInt8 else -1
theorem ixl_in {c : Int} (h : 0 ≤ c) : decide (0 ≤ ixl c) = inLet c := by
  unfold ixl
  by_cases h1 : c < 128
  · rw [if_pos h1]
    obtain ⟨n, rfl⟩ : ∃ n : Nat, c = n := ⟨c.toNat, by omega⟩
    have : ∀ n : Nat, n < 128 → decide (0 ≤ Lib.indexByte lets.data.toList ((n : Int).toNat.toUInt8)) = inLet n := by decide +kernel
    exact this n (by omega)
  · rw [if_neg h1]
    simp [inLet]
    omega
theorem indexByte_none {l : List UInt8} {c : UInt8} (h : c ∉ l) : Lib.indexByte l c = -1 := by
  induction l with
  | nil => rfl
  | cons b l ih =>
    simp only [List.mem_cons, not_or] at h
    unfold Lib.indexByte
    rw [ih h.2, if_neg (by simpa using fun e => h.1 e.symm)]
    rfl
theorem lets_high {b : UInt8} (h : 128 ≤ b.toNat) (l h' : Nat) : Lib.indexByte (lets.extract l h').data.toList b = -1 := by
  refine indexByte_none fun hm => ?_
  have hm2 : b ∈ lets.data.toList := by
    rw [ByteArray.data_extract] at hm
    rw [Array.toList_extract, List.extract_eq_take_drop] at hm
    exact List.mem_of_mem_drop (List.mem_of_mem_take hm)
  have : ∀ x ∈ lets.data.toList, x.toNat < 128 := by decide +kernel
  have := this b hm2
  omega

set_option maxHeartbeats 0 in
theorem strings_IndexRune (c : Int) (hc0 : 0 ≤ c) (hc1 : c ≤ 1114111) (H : Heap) : AC Tryz.prog 185 [.str lets, .int .i32 c] H (Ret (.int .i64 (ixl c)) H) := by
  refine AC.body (N := 187) [.tmp 4] Tryz.func185 rfl rfl rfl (Nat.le_of_ble_eq_true rfl) fun B hB => ?_
  refine Zz ?_
  refine aw_out 160 (.bool (decide (c < 128))) ?_ ?_
  · refine Za ?_
    refine Zk ?_
    refine ao_split rfl rfl (fun hg2 => ?_) (fun hg2 => ?_)
    · refine Zl ?_
      refine Zm ?_
      exact Zq
    · refine Zt ?_
      exact Zp
  refine Z1 ?_
  refine aw_cond rfl (fun hc => ?_) (fun hc => ?_)
  · simp at hc
    refine Z2 ?_
    refine Z9 ?_
    refine Za ?_
    refine ao1 (by decide) (o_conv_int rfl (show IntKind.u8.wrap c = c by simp [IntKind.wrap, IntKind.signed, IntKind.bits]; omega)) ?_
    refine ao_ret (strings_IndexByte _ _ _) rfl (by decide) ?_
    refine Zc ?_
    rw [show Lib.indexByte lets.data.toList c.toNat.toUInt8 = ixl c by rw [ixl, if_pos hc]]
    exact Zd
  have hc128 : 128 ≤ c := by simp at hc; omega
  rw [show ixl c = -1 by rw [ixl, if_neg (by omega)]]
  refine Z10 ?_
  refine Z12 ?_
  refine aw_cond rfl (fun hc => ?_) (fun hc => ?_)
  · refine aw_seq ?_
    refine aw_rangeStr (s := lets) rfl (by decide) (by decide) (by decide) (by decide) (by decide) (by decide) (by decide) (fun _ => True) (fun _ => []) trivial Sub.nil ?_ ?_
    · intro pos r B' hp _ hB'
      rw [lets_size] at hp
      have hlow := lets_low pos hp
      rw [decode_low lets pos hlow]
      refine Z2 ?_
      refine Z13 ?_
      refine Z13 ?_
      refine Z3 ?_
      refine Z15 ?_
      refine Z16 ?_
      refine aw_cond rfl (fun hc => ?_) (fun hc => ?_)
      · simp at hc; omega
      · refine Z1 ?_
        exact ⟨trivial, (by repeat (first | exact Sub.nil | refine Sub.cons (by first | rfl | (simp [get]; done)) ?_)), rfl⟩
    · intro pos r hp _
      exact Z17
  · refine Z10 ?_
    refine ao_ret (utf8_ValidRune _ _) rfl (by decide) ?_
    refine Z18 ?_
    refine Zg ?_
    refine aw_cond rfl (fun hc => ?_) (fun hc => ?_)
    · exact Z17
    · have hv : Utf8.valid c = true := by simpa using hc
      obtain ⟨h2, h4, hb⟩ := encode_high hc128 hv
      obtain ⟨m, hm⟩ : ∃ m, (Utf8.encode c).data.toList.length = m + 1 := ⟨_, (Nat.succ_pred (by omega : (Utf8.encode c).data.toList.length ≠ 0)).symm⟩
      have hsz : (Utf8.encode c).size = m + 1 := by show (Utf8.encode c).data.size = m + 1; rw [← Array.length_toList, hm]
      obtain ⟨bl, hbl, hbm⟩ : ∃ bl, (Utf8.encode c)[m]? = some bl ∧ bl ∈ (Utf8.encode c).data.toList := by
        have hlt : m < (Utf8.encode c).size := by omega
        refine ⟨(Utf8.encode c)[m], getElem?_pos (Utf8.encode c) m hlt, ?_⟩
        rw [ByteArray.getElem_eq_getElem_data]
        exact Array.getElem_mem_toList _
      have hb128 := hb bl hbm
      have hlow := lets_low m (by omega)
      have hlm := lets_get m (by omega)
      refine Z10 ?_
      refine ao1 (by decide) (o_runeStr rfl) ?_
      refine ao1 (by decide) (o_assign (v := .str _) rfl) ?_
      refine Z7 ?_
      refine Z9 ?_
      refine Z19 ?_
      refine ao1 (by decide) (o_sub (r := (m : Int)) rfl rfl (by rw [hsz, show ((m + 1 : Nat) : Int) - 1 = (m : Int) by omega]; exact wrap64_ok (by omega) (by omega))) ?_
      refine Z15 ?_
      refine Z1a ?_
      refine Z1d ?_
      refine aw_loop (G := Unit) (fun _ => True) (fun _ => [(0, .str lets), (7, .str (Utf8.encode c)), (8, .int .i64 (m : Int)), (9, .int .i64 (m : Int))]) (fun _ => H ++ []) (fun _ => 0) () trivial (by repeat (first | exact Sub.nil | refine Sub.cons (by first | rfl | (simp [get]; done)) ?_)) (Fit.refl _ _) ?_
      rintro _ _
      refine Z10 ?_
      refine Z9 ?_
      refine Z19 ?_
      refine Z1e ?_
      refine aw_cond rfl (fun hc => ?_) (fun hc => ?_)
      · refine Z1 ?_
        refine Z1g ?_
        refine Z1h ?_
        refine Z1i ?_
        refine aq0 2 rfl (by decide +kernel) (by decide) (fun _ => o_indexStr rfl rfl (by omega) hlm) ?_
        refine aq0 3 rfl (by decide +kernel) (by decide) (fun _ => o_move (v := .str _) rfl) ?_
        refine Z1j ?_
        refine aq0 5 rfl (by decide +kernel) (by decide) (fun _ => o_indexStr rfl rfl (by omega) hbl) ?_
        refine aq0 6 rfl (by decide +kernel) (by decide) (fun _ => o_ne rfl rfl) ?_
        refine Z1l ?_
        refine aw_cond rfl (fun hc => ?_) (fun hc => ?_)
        · refine Z1 ?_
          refine Z1g ?_
          refine Z1h ?_
          refine Z1i ?_
          first | refine aq0 2 rfl (by decide +kernel) (by decide) (fun _ => o_add rfl rfl (wrap64_ok (by omega) (by omega))) ?_ | refine aq0 2 rfl (by decide +kernel) (by decide) (fun _ => o_add rfl rfl rfl) ?_
          refine aq0 3 rfl (by decide +kernel) (by decide) (fun _ => o_sliceStr (l := m + 1) rfl (.some rfl rfl) .none (by rw [lets_size]; omega) (Nat.le_refl _)) ?_
          refine aq0 4 rfl (by decide +kernel) (by decide) (fun _ => o_move (v := .str _) rfl) ?_
          refine Z1m ?_
          refine aq0 6 rfl (by decide +kernel) (by decide) (fun _ => o_indexStr rfl rfl (by omega) hbl) ?_
          refine aq02 7 rfl (by decide +kernel) (by decide) (fun _ => V2.call (strings_IndexByte (lets.extract (m + 1) lets.size) (bl.toNat : Int) _) rfl) ?_
          refine aq0 8 rfl (by decide +kernel) (by decide) (fun _ => o_assign (v := .int _ _) rfl) ?_
          refine Z1k ?_
          rw [show ((bl.toNat : Int).toNat.toUInt8) = bl by simp, lets_high hb128]
          refine Z1n ?_
          refine aw_cond rfl (fun hc => ?_) (fun hc => ?_)
          · exact Z17
          · simp at hc
        · simp at hc
          omega
      · simp [lets_size] at hc
        omega
end Go.Av

namespace Go.Av
open Go.Proofs
set_option maxRecDepth 10000
set_option linter.unusedSimpArgs false
set_option linter.unusedVariables false

theorem strings_ContainsRune (c : Int) (h0 : 0 ≤ c) (h1 : c ≤ 1114111) (H : Heap) : AC Tryz.prog 152 [.str lets, .int .i32 c] H (Ret (.bool (inLet c)) H) := by
  refine AC.body (N := 9) [.tmp 4] Tryz.func152 rfl rfl rfl (Nat.le_of_ble_eq_true rfl) fun B hB => ?_
  refine Z1p ?_
  refine Z9 ?_
  refine Za ?_
  refine ao_ret (strings_IndexRune _ (by assumption) (by assumption) _) rfl (by decide) ?_
  refine Z1q ?_
  refine Zg ?_
  rw [← ixl_in h0]
  exact Zd
theorem graph_Tag_1 (c : Int) (h0 : 0 ≤ c) (h1 : c ≤ 1114111) (H : Heap) : AC Tryz.prog 151 [.int .i32 c] H (Ret (.bool (!inLet c)) H) := by
  refine AC.body (N := 6) [.tmp 2] Tryz.func151 rfl rfl rfl (Nat.le_of_ble_eq_true rfl) fun B hB => ?_
  refine Z1s ?_
  refine ao_ret (strings_ContainsRune _ (by assumption) (by assumption) _) rfl (by decide) ?_
  refine Z18 ?_
  refine Zg ?_
  exact Zd

theorem str_get {s : ByteArray} {k : Nat} (h : k < s.size) : ∃ b : UInt8, s[k]? = some b ∧ s.data.toList[k]? = some b ∧ s.get! k = b := by
  refine ⟨s[k], getElem?_pos s k h, ?_, ?_⟩
  · rw [Array.getElem?_toList]; exact getElem?_pos s.data k h
  · show s.get! k = _
    simp [ByteArray.get!, getElem!_pos, h]
    rfl
theorem str_len (s : ByteArray) : s.data.toList.length = s.size := by rw [Array.length_toList]; rfl
theorem dec_ok {s : ByteArray} {k : Nat} {b : UInt8} (h : s.get! k = b) : inLet ((Utf8.decode s k).1 : Int) = tagb b ∧ (Utf8.decode s k).1 ≤ 1114111 ∧ (tagb b = true → (Utf8.decode s k).2 = 1) := by
  by_cases hb : b.toNat < 128
  · have := decode_low s k (by rw [h]; exact hb)
    rw [this, h]
    exact ⟨rfl, by simp only; omega, fun _ => rfl⟩
  · have := decode_high s k (by rw [h]; omega)
    have hn : tagb b = false := by simp [tagb, inLet]; omega
    refine ⟨?_, this.2, fun h => by rw [hn] at h; cases h⟩
    rw [hn]
    simp [inLet]
    omega

theorem strings_indexFunc (s : ByteArray) (H : Heap) : AC Tryz.prog 206 [.str s, .fn (.func 151) [] [], .bool true] H (Ret (.int .i64 (ixf (fun b => !tagb b) s.data.toList)) H) := by
  refine AC.body (N := 21) [.tmp 6] Tryz.func206 rfl rfl rfl (Nat.le_of_ble_eq_true rfl) fun B hB => ?_
  refine Z4 ?_
  refine Z6 ?_
  refine then_nrm ?_
  refine aw_seq ?_
  refine aw_rangeStr (s := s) rfl (by decide) (by decide) (by decide) (by decide) (by decide) (by decide) (by decide) (fun k => k ≤ s.size ∧ ∀ b ∈ s.data.toList.take k, (!tagb b) = false) (fun _ => [(1, .fn (.func 151) [] []), (2, .bool true)]) ⟨Nat.zero_le _, by simp⟩ (by repeat (first | exact Sub.nil | refine Sub.cons (by first | rfl | (simp [get]; done)) ?_)) ?_ ?_
  · rintro k r B' hp ⟨hk, hno⟩ hB'
    obtain ⟨b, h1, h2, h3⟩ := str_get hp
    obtain ⟨d1, d2, d3⟩ := dec_ok h3
    generalize Utf8.decode s k = q at d1 d2 d3
    refine Z2 ?_
    refine Z13 ?_
    refine Z13 ?_
    refine Z3 ?_
    refine Z1a ?_
    refine Z1t ?_
    refine Za ?_
    refine ao_retv (graph_Tag_1 (q.1 : Int) (by omega) (by omega) _) rfl rfl (by decide) ?_
    refine Zj ?_
    refine ao1 (by decide) (o_beq rfl rfl) ?_
    refine Z6 ?_
    rw [d1]
    refine Z1 ?_
    refine aw_cond rfl (fun hc => ?_) (fun hc => ?_)
    · have hb : (!tagb b) = true := by simpa using hc
      refine Z1u ?_
      rw [ixf_some (p := fun b => !tagb b) h2 hb hno]
      exact Zd
    · have hb : (!tagb b) = false := by simpa using hc
      have hq := d3 (by simpa using hb)
      refine Z1 ?_
      rw [hq]
      refine ⟨⟨by omega, ?_⟩, (by repeat (first | exact Sub.nil | refine Sub.cons (by first | rfl | (simp [get]; done)) ?_)), rfl⟩
      rw [take_snoc_get h2]
      intro y hy
      rcases List.mem_append.1 hy with h | h
      · exact hno y h
      · simp only [List.mem_singleton] at h
        subst h
        exact hb
  · rintro k r hp ⟨hk, hno⟩
    have : k = s.size := by omega
    subst this
    rw [← str_len, List.take_length] at hno
    rw [ixf_none (p := fun b => !tagb b) hno]
    exact Z17
theorem strings_IndexFunc (s : ByteArray) (H : Heap) : AC Tryz.prog 184 [.str s, .fn (.func 151) [] []] H (Ret (.int .i64 (ixf (fun b => !tagb b) s.data.toList)) H) := by
  refine AC.body (N := 8) [.tmp 4] Tryz.func184 rfl rfl rfl (Nat.le_of_ble_eq_true rfl) fun B hB => ?_
  refine Z8 ?_
  refine Z9 ?_
  refine Z1t ?_
  refine ao_ret (strings_indexFunc _ _) rfl (by decide) ?_
  exact Ze
theorem strings_ContainsFunc (s : ByteArray) (H : Heap) : AC Tryz.prog 150 [.str s, .fn (.func 151) [] []] H (Ret (.bool (s.data.toList.any fun b => !tagb b)) H) := by
  refine AC.body (N := 9) [.tmp 4] Tryz.func150 rfl rfl rfl (Nat.le_of_ble_eq_true rfl) fun B hB => ?_
  refine Z1p ?_
  refine Z9 ?_
  refine Z1t ?_
  refine ao_ret (strings_IndexFunc _ _) rfl (by decide) ?_
  refine Z1q ?_
  refine Zg ?_
  rw [← ixf_nonneg]
  exact Zd
theorem graph_Tag (s : ByteArray) (H : Heap) : AC Tryz.prog 102 [.str s] H (Ret (.bool (tagok s)) H) := by
  rw [show tagok s = (decide ((s.size : Int) ≤ 16) && !(s.data.toList.any fun b => !tagb b)) by simp [tagok, List.all_eq_not_any_not]]
  refine AC.body (N := 11) [.tmp 2] Tryz.func102 rfl rfl rfl (Nat.le_of_ble_eq_true rfl) fun B hB => ?_
  refine Zh ?_
  refine aw_out 2 (.bool (decide ((s.size : Int) ≤ 16) && !(s.data.toList.any fun b => !tagb b))) ?_ ?_
  · refine Z9 ?_
    refine Z19 ?_
    refine Zk ?_
    refine ao_split rfl rfl (fun hg3 => ?_) (fun hg3 => ?_)
    · refine Z1v ?_
      refine ao_y rfl rfl (by decide) (V2.call (strings_ContainsFunc _ _) rfl) ?_
      refine Z1w ?_
      exact Zq
    · refine Z1y ?_
      exact Zp
  exact Z1z
theorem ref05_Tag (s : ByteArray) (H : Heap) (hs : s.size ≤ 9223372036854775807) : AC Tryz.prog 104 [.str s] H (Ret (.bool (tagok s)) H) := by
  refine AC.body (N := 37) [.tmp 2] Tryz.func104 rfl rfl rfl (Nat.le_of_ble_eq_true rfl) fun B hB => ?_
  refine Z1p ?_
  refine Z1d ?_
  refine aw_loop (G := Nat) (fun k => k ≤ s.size ∧ (s.data.toList.take k).all tagb = true) (fun k => [(0, .str s), (3, .int .i64 (k : Int))]) (fun _ => H ++ []) (fun k => s.size - k) 0 ⟨Nat.zero_le _, by simp⟩ (by repeat (first | exact Sub.nil | refine Sub.cons (by first | rfl | (simp [get]; done)) ?_)) (Fit.refl _ _) ?_
  rintro k ⟨hk, hno⟩
  refine Z10 ?_
  refine Z9 ?_
  refine Z19 ?_
  refine Z1e ?_
  refine aw_cond rfl (fun hc => ?_) (fun hc => ?_)
  · have hlt : k < s.size := by simp at hc; omega
    obtain ⟨b, h1, h2, h3⟩ := str_get hlt
    have hbm := List.mem_of_getElem? h2
    refine Z1 ?_
    refine aw_out 33 (.bool (!tagb b)) ?_ ?_
    · refine Z9 ?_
      refine Za ?_
      refine ao1 (by decide) (o_indexStr rfl rfl (by omega) h1) ?_
      refine Z20 ?_
      refine ao_split rfl rfl (fun hg4 => ?_) (fun hg4 => ?_)
      · refine Z1v ?_
        refine Zl ?_
        refine Z21 ?_
        refine Zx ?_
        refine Zn ?_
        refine Z22 ?_
        refine ao_split rfl rfl (fun hg11 => ?_) (fun hg11 => ?_)
        · refine Z1v ?_
          refine Zl ?_
          refine Z21 ?_
          refine Z23 ?_
          refine Z24 ?_
          refine ao_split rfl rfl (fun hg16 => ?_) (fun hg16 => ?_)
          · refine Z1v ?_
            refine Zl ?_
            refine Z21 ?_
            refine Zx ?_
            refine Z27 ?_
            exact Z28
          · refine Z29 ?_
            refine Z27 ?_
            exact Z28
        · refine Zs ?_
          refine Z1x ?_
          refine Z2b ?_
          refine Z2b ?_
          refine Zs ?_
          refine Zn ?_
          exact Z28
      · refine Z2c ?_
        refine Z22 ?_
        refine Z1v ?_
        refine Zl ?_
        refine Z21 ?_
        refine Z23 ?_
        refine Z24 ?_
        refine ao_split rfl rfl (fun hg16 => ?_) (fun hg16 => ?_)
        · refine Z1v ?_
          refine Zl ?_
          refine Z21 ?_
          refine Zx ?_
          refine Z27 ?_
          exact Z28
        · refine Z29 ?_
          refine Z27 ?_
          exact Z28
    refine Z1 ?_
    refine aw_cond rfl (fun hc => ?_) (fun hc => ?_)
    · refine Zh ?_
      rw [show tagok s = false by rw [tagok, all_fail hbm (by simpa using hc), Bool.and_false]]
      exact Zd
    · refine Z2f ?_
      exact ⟨k + 1, by omega, ⟨by omega, all_step h2 hno (by simpa using hc)⟩, (by repeat (first | exact Sub.nil | refine Sub.cons (by first | rfl | (simp [get]; done)) ?_)), .refl _ _⟩
  · have : k = s.size := by simp at hc; omega
    subst this
    rw [← str_len, List.take_length] at hno
    rw [show tagok s = decide ((s.size : Int) ≤ 16) by rw [tagok, hno, Bool.and_true]]
    refine Z2 ?_
    refine Z9 ?_
    refine Z19 ?_
    refine Zi ?_
    refine Zg ?_
    exact Zd
end Go.Av

namespace Go.Av
open Go.Proofs
set_option maxRecDepth 10000
set_option linter.unusedSimpArgs false
set_option linter.unusedVariables false

/-! ### times -/
theorem when_near (t : Int) (H : Heap) : AC Tryz.prog 88 [.int .i64 t] H (Ret (.int .i64 (near t)) H) := by
  refine AC.body (N := 6) [.tmp 2] Tryz.func88 rfl rfl rfl (Nat.le_of_ble_eq_true rfl) fun B hB => ?_
  refine Z2g ?_
  refine Z2h ?_
  refine ao1 (by decide) (o_max rfl rfl rfl) ?_
  exact Ze
theorem when_Plus (t l : Int) (H : Heap) : AC Tryz.prog 39 [.int .i64 t, .int .i64 l] H (Ret (.int .i64 (plus t l)) H) := by
  have h1 := near_in t
  have h2 := near_in l
  refine AC.body (N := 14) [.tmp 4] Tryz.func39 rfl rfl rfl (Nat.le_of_ble_eq_true rfl) fun B hB => ?_
  refine Z2g ?_
  refine Z2i ?_
  refine Za ?_
  refine Z2i ?_
  refine Za ?_
  refine Z2i ?_
  first | refine ao1 (by decide) (o_sub rfl rfl (wrap64_ok (by omega) (by omega))) ?_ | refine ao1 (by decide) (o_sub rfl rfl rfl) ?_
  refine Z2h ?_
  refine Z2e ?_
  exact Zd
theorem when_Right (t : Int) (H : Heap) : AC Tryz.prog 74 [.int .i64 t] H (Ret (.bool (decide (0 ≤ t) && decide (t ≤ 4611686018427387904))) H) := by
  refine AC.body (N := 9) [.tmp 2] Tryz.func74 rfl rfl rfl (Nat.le_of_ble_eq_true rfl) fun B hB => ?_
  refine Zh ?_
  refine aw_out 2 (.bool (decide (0 ≤ t) && decide (t ≤ 4611686018427387904))) ?_ ?_
  · refine Za ?_
    refine Z20 ?_
    refine ao_split rfl rfl (fun hg2 => ?_) (fun hg2 => ?_)
    · refine Zy ?_
      exact Zq
    · refine Zt ?_
      exact Zp
  exact Z1z
theorem ref02_Near (t : Int) (H : Heap) : AC Tryz.prog 121 [.int .i64 t] H (Ret (.int .u64 (near t)) H) := by
  refine AC.body (N := 9) [.tmp 2] Tryz.func121 rfl rfl rfl (Nat.le_of_ble_eq_true rfl) fun B hB => ?_
  refine Z2g ?_
  refine Z1e ?_
  refine aw_cond rfl (fun hc => ?_) (fun hc => ?_)
  · refine Zz ?_
    rw [show near t = 0 by simp at hc; unfold near; omega]
    exact Zd
  · refine Z10 ?_
    refine Z2k ?_
    refine aw_cond rfl (fun hc => ?_) (fun hc => ?_)
    · refine Zz ?_
      rw [show near t = 4611686018427387904 by simp at hc; unfold near; omega]
      exact Zd
    · have ht : 0 ≤ t ∧ t ≤ 4611686018427387904 := by simp at *; omega
      refine Z10 ?_
      refine ao1 (by decide) (o_conv_int rfl (show IntKind.u64.wrap t = t by rw [IntKind.wrap_u64]; omega)) ?_
      refine Zc ?_
      rw [show near t = t by unfold near; omega]
      exact Zd
theorem ref02_Plus (t l : Int) (H : Heap) : AC Tryz.prog 71 [.int .i64 t, .int .i64 l] H (Ret (.int .i64 (plus t l)) H) := by
  have h1 := near_in t
  have h2 := near_in l
  refine AC.body (N := 15) [.tmp 4] Tryz.func71 rfl rfl rfl (Nat.le_of_ble_eq_true rfl) fun B hB => ?_
  refine Z2g ?_
  refine Z2l ?_
  refine Za ?_
  refine Z2l ?_
  refine ao1 (by decide) (o_add (r := near t + near l) rfl rfl (by rw [IntKind.wrap_u64]; omega)) ?_
  refine Z15 ?_
  refine Z2k ?_
  refine aw_cond rfl (fun hc => ?_) (fun hc => ?_)
  · refine Z2g ?_
    refine Z2m ?_
    refine Zc ?_
    rw [show plus t l = 4611686018427387904 by simp at hc; unfold plus; omega]
    exact Zd
  · have : near t + near l ≤ 4611686018427387904 := by simp at hc; omega
    refine Z10 ?_
    refine Z2m ?_
    refine Zc ?_
    rw [show plus t l = near t + near l by unfold plus; omega]
    exact Zd

/-! ### comparing -/
def cmpI (a b : Int) : Int := if a < b then -1 else if b < a then 1 else 0
theorem cmp_isNaN (t : Int) (H : Heap) : AC Tryz.prog 169 [.int .i64 t] H (Ret (.bool false) H) := by
  refine AC.body (N := 6) [.tmp 2] Tryz.func169 rfl rfl rfl (Nat.le_of_ble_eq_true rfl) fun B hB => ?_
  refine Z1s ?_
  refine Za ?_
  refine Z2n ?_
  refine Zg ?_
  rw [show (t != t) = false by simp]
  exact Zd
theorem cmp_isNaN64 (t : Int) (H : Heap) : AC Tryz.prog 252 [.int .i64 t] H (Ret (.bool false) H) := by
  refine AC.body (N := 6) [.tmp 2] Tryz.func252 rfl rfl rfl (Nat.le_of_ble_eq_true rfl) fun B hB => ?_
  refine Z1s ?_
  refine Za ?_
  refine Z2n ?_
  refine Zg ?_
  rw [show (t != t) = false by simp]
  exact Zd
theorem cmp_Compare (a b : Int) (H : Heap) : AC Tryz.prog 136 [.int .i64 a, .int .i64 b] H (Ret (.int .i64 (cmpI a b)) H) := by
  refine AC.body (N := 20) [.tmp 4] Tryz.func136 rfl rfl rfl (Nat.le_of_ble_eq_true rfl) fun B hB => ?_
  refine Z2g ?_
  refine Z2o ?_
  refine Zf ?_
  refine Z14 ?_
  refine Z2o ?_
  refine Z2p ?_
  refine Zb ?_
  refine aw_cond rfl (fun hc => ?_) (fun hc => ?_)
  · cases hc
  refine Z2 ?_
  refine Zj ?_
  refine Zb ?_
  refine aw_cond rfl (fun hc => ?_) (fun hc => ?_)
  · cases hc
  refine Z2q ?_
  refine Z1e ?_
  refine aw_cond rfl (fun hc => ?_) (fun hc => ?_)
  · refine Zz ?_
    rw [show cmpI a b = -1 by simp at hc; simp [cmpI, hc]]
    exact Zd
  · refine Z2q ?_
    refine Z2k ?_
    refine aw_cond rfl (fun hc => ?_) (fun hc => ?_)
    · refine Zz ?_
      rw [show cmpI a b = 1 by simp at *; unfold cmpI; rw [if_neg (by omega), if_pos (by omega)]]
      exact Zd
    · refine Zz ?_
      rw [show cmpI a b = 0 by simp at *; unfold cmpI; rw [if_neg (by omega), if_neg (by omega)]]
      exact Zd
abbrev eI (i : Int) : List AV := [.int .i64 i]
def orI (l : List Int) : Int := (l.find? (· != 0)).getD 0
end Go.Av

namespace Go.Av
open Go.Proofs
set_option maxRecDepth 10000
set_option linter.unusedSimpArgs false
set_option linter.unusedVariables false


theorem spec_within (n a b : Int) (H : Heap) : AC Tryz.prog 182 [.int .i64 n, .int .i64 a, .int .i64 b] H (Ret (.bool (decide (a ≤ n) && decide (n ≤ b))) H) := by
  refine AC.body (N := 15) [.tmp 6] Tryz.func182 rfl rfl rfl (Nat.le_of_ble_eq_true rfl) fun B hB => ?_
  refine Zh ?_
  refine aw_out 6 (.bool (decide (a ≤ n) && decide (n ≤ b))) ?_ ?_
  · refine Z2r ?_
    refine Z20 ?_
    refine ao_split rfl rfl (fun hg3 => ?_) (fun hg3 => ?_)
    · refine Z2s ?_
      refine Zx ?_
      exact Zq
    · refine Z1y ?_
      exact Zp
  exact Z1z
theorem spec_within64 (n a b : Int) (H : Heap) : AC Tryz.prog 183 [.int .i64 n, .int .i64 a, .int .i64 b] H (Ret (.bool (decide (a ≤ n) && decide (n ≤ b))) H) := by
  refine AC.body (N := 15) [.tmp 6] Tryz.func183 rfl rfl rfl (Nat.le_of_ble_eq_true rfl) fun B hB => ?_
  refine Zh ?_
  refine aw_out 6 (.bool (decide (a ≤ n) && decide (n ≤ b))) ?_ ?_
  · refine Z2r ?_
    refine Z20 ?_
    refine ao_split rfl rfl (fun hg3 => ?_) (fun hg3 => ?_)
    · refine Z2s ?_
      refine Zx ?_
      exact Zq
    · refine Z1y ?_
      exact Zp
  exact Z1z
theorem spec_Right (s : Spec) (H : Heap) : AC Tryz.prog 148 [.agg (eSpec s)] H (Ret (.bool (sright s)) H) := by
  refine AC.body (N := 49) [.tmp 2] Tryz.func148 rfl rfl rfl (Nat.le_of_ble_eq_true rfl) fun B hB => ?_
  refine Z2 ?_
  refine Z2t ?_
  refine Zg ?_
  refine aw_out 3 (.bool (smany s)) ?_ ?_
  · refine Z2w ?_
    refine ao_ret (spec_within _ _ _ _) rfl (by decide) ?_
    refine Zj ?_
    refine ao_split rfl rfl (fun hg3 => ?_) (fun hg3 => ?_)
    · refine Z2z ?_
      refine Z30 ?_
      refine Z31 ?_
      refine ao_split rfl rfl (fun hg8 => ?_) (fun hg8 => ?_)
      · refine Z2z ?_
        refine Z30 ?_
        refine Zo ?_
        exact Z32
      · refine Z1y ?_
        exact Z32
    · refine Z34 ?_
      exact Z32
  refine Z1 ?_
  refine aw_out 4 (.bool (ssome s)) ?_ ?_
  · refine Z2u ?_
    first | refine ao1 (by decide) (w_load1 (v := .bool _) rfl (lk rfl rfl) rfl rfl rfl) ?_ | refine ao1 (by decide) (w_load1 (v := .bool _) rfl (lk rfl rfl) rfl (zadd hr) rfl) ?_ | refine ao1 (by decide) (w_load1 (v := .bool _) rfl (lk rfl rfl) rfl (zadd hr1) rfl) ?_ | refine ao1 (by decide) (w_load1 (v := .bool _) rfl (lk rfl rfl) rfl (zadd hr2) rfl) ?_ | refine ao1 (by decide) (o_load1p (v := .bool _) rfl hr rfl) ?_ | refine ao1 (by decide) (o_load1p (v := .bool _) rfl hr1 rfl) ?_ | refine ao1 (by decide) (o_load1p (v := .bool _) rfl hr2 rfl) ?_ | refine ao1 (by decide) (w_load1 (v := .bool _) rfl (lkF hF) rfl rfl rfl) ?_
    refine Zj ?_
    refine ao_split rfl rfl (fun hg2 => ?_) (fun hg2 => ?_)
    · refine Z38 ?_
      refine Z37 ?_
      refine Zo ?_
      exact Z39
    · refine Z3c ?_
      refine ao_split rfl rfl (fun hg7 => ?_) (fun hg7 => ?_)
      · refine Z37 ?_
        refine Zo ?_
        exact Z39
      · refine Z3b ?_
        refine Zo ?_
        exact Z39
  refine Z1 ?_
  refine aw_out 2 (.bool (sright s)) ?_ ?_
  · refine Z3d ?_
    refine ao_split rfl rfl (fun hg1 => ?_) (fun hg1 => ?_)
    · refine Z24 ?_
      refine Z31 ?_
      refine ao_split rfl rfl (fun hg4 => ?_) (fun hg4 => ?_)
      · refine Z2x ?_
        refine Z3e ?_
        refine ao_y rfl rfl (by decide) (V2.call (graph_Tag _ _) rfl) ?_
        refine Z31 ?_
        refine ao_split rfl rfl (fun hg9 => ?_) (fun hg9 => ?_)
        · refine Z2z ?_
          refine ao_y rfl rfl (by decide) (V2.call (spec_within64 _ _ _ _) rfl) ?_
          refine Z31 ?_
          refine ao_split rfl rfl (fun hg14 => ?_) (fun hg14 => ?_)
          · refine Z2z ?_
            refine Z30 ?_
            refine Zo ?_
            exact Z3f
          · refine Z1y ?_
            exact Z3f
        · exact Z3g
      · refine Z33 ?_
        exact Z3g
    · refine Zr ?_
      refine Z31 ?_
      refine Z33 ?_
      exact Z3g
  exact Z1z
theorem ref07_Right (s : Spec) (H : Heap) (ht : s.tag.size ≤ 9223372036854775807) : AC Tryz.prog 160 [.agg (eSpec s)] H (Ret (.bool (sright s)) H) := by
  refine AC.body (N := 67) [.tmp 2] Tryz.func160 rfl rfl rfl (Nat.le_of_ble_eq_true rfl) fun B hB => ?_
  refine Z2 ?_
  refine Z2t ?_
  refine Zg ?_
  refine aw_out 30 (.bool (!smany s)) ?_ ?_
  · refine Z2w ?_
    refine Zv ?_
    refine ao_split rfl rfl (fun hg3 => ?_) (fun hg3 => ?_)
    · refine Z3i ?_
      refine Z3j ?_
      exact Z32
    · refine Z3c ?_
      refine ao_split rfl rfl (fun hg8 => ?_) (fun hg8 => ?_)
      · refine Z3h ?_
        refine Z3k ?_
        exact Z32
      · refine Z3m ?_
        refine ao_split rfl rfl (fun hg13 => ?_) (fun hg13 => ?_)
        · refine Z3h ?_
          refine Z3j ?_
          exact Z32
        · refine Z3c ?_
          refine ao_split rfl rfl (fun hg18 => ?_) (fun hg18 => ?_)
          · refine Z3k ?_
            exact Z32
          · refine Z3m ?_
            refine ao_split rfl rfl (fun hg23 => ?_) (fun hg23 => ?_)
            · refine Z3j ?_
              exact Z32
            · refine Z3b ?_
              refine Zn ?_
              exact Z32
  refine Z1 ?_
  refine aw_cond rfl (fun hc => ?_) (fun hc => ?_)
  · refine Zh ?_
    rw [show sright s = false by simp at hc; simp [sright, hc]]
    exact Zd
  · have hm : smany s = true := by simpa using hc
    have hm' := hm
    simp only [smany, Bool.and_eq_true, decide_eq_true_eq] at hm'
    refine Z1 ?_
    refine aw_out 43 (.bool (!ssome s)) ?_ ?_
    · refine Z3o ?_
      refine ao_split rfl rfl (fun hg3 => ?_) (fun hg3 => ?_)
      · refine Z3r ?_
        refine ao_split rfl rfl (fun hg8 => ?_) (fun hg8 => ?_)
        · refine Z2x ?_
          first | refine ao_y1 rfl rfl (by decide) (w_load1 (v := .bool _) rfl (lk rfl rfl) rfl rfl rfl) ?_ | refine ao_y1 rfl rfl (by decide) (w_load1 (v := .bool _) rfl (lk rfl rfl) rfl (zadd hr) rfl) ?_ | refine ao_y1 rfl rfl (by decide) (w_load1 (v := .bool _) rfl (lk rfl rfl) rfl (zadd hr1) rfl) ?_ | refine ao_y1 rfl rfl (by decide) (w_load1 (v := .bool _) rfl (lk rfl rfl) rfl (zadd hr2) rfl) ?_ | refine ao_y1 rfl rfl (by decide) (o_load1p (v := .bool _) rfl hr rfl) ?_ | refine ao_y1 rfl rfl (by decide) (o_load1p (v := .bool _) rfl hr1 rfl) ?_ | refine ao_y1 rfl rfl (by decide) (o_load1p (v := .bool _) rfl hr2 rfl) ?_ | refine ao_y1 rfl rfl (by decide) (w_load1 (v := .bool _) rfl (lkF hF) rfl rfl rfl) ?_
          refine Z26 ?_
          exact Z39
        · refine Z1x ?_
          refine Zn ?_
          exact Z39
      · refine Z33 ?_
        refine Z1x ?_
        refine Zn ?_
        exact Z39
    refine Z1 ?_
    refine aw_cond rfl (fun hc => ?_) (fun hc => ?_)
    · refine Zh ?_
      rw [show sright s = false by simp at hc; simp [sright, hc]]
      exact Zd
    · have hs : ssome s = true := by simpa using hc
      refine Z1 ?_
      refine aw_out 2 (.bool (sright s)) ?_ ?_
      · refine Z2u ?_
        first | refine ao1 (by decide) (w_load1 (v := .str _) rfl (lk rfl rfl) rfl rfl rfl) ?_ | refine ao1 (by decide) (w_load1 (v := .str _) rfl (lk rfl rfl) rfl (zadd hr) rfl) ?_ | refine ao1 (by decide) (w_load1 (v := .str _) rfl (lk rfl rfl) rfl (zadd hr1) rfl) ?_ | refine ao1 (by decide) (w_load1 (v := .str _) rfl (lk rfl rfl) rfl (zadd hr2) rfl) ?_ | refine ao1 (by decide) (o_load1p (v := .str _) rfl hr rfl) ?_ | refine ao1 (by decide) (o_load1p (v := .str _) rfl hr1 rfl) ?_ | refine ao1 (by decide) (o_load1p (v := .str _) rfl hr2 rfl) ?_ | refine ao1 (by decide) (w_load1 (v := .str _) rfl (lkF hF) rfl rfl rfl) ?_
        refine ao_ret (ref05_Tag _ _ (by assumption)) rfl (by decide) ?_
        refine Zj ?_
        refine ao_split rfl rfl (fun hg3 => ?_) (fun hg3 => ?_)
        · refine Z3s ?_
          refine Z31 ?_
          refine ao_split rfl rfl (fun hg8 => ?_) (fun hg8 => ?_)
          · refine Z2z ?_
            refine Zx ?_
            refine Z31 ?_
            refine ao_split rfl rfl (fun hg13 => ?_) (fun hg13 => ?_)
            · refine Z3s ?_
              refine Z31 ?_
              refine ao_split rfl rfl (fun hg18 => ?_) (fun hg18 => ?_)
              · refine Z2z ?_
                refine Zx ?_
                refine Zo ?_
                exact Z3f
              · refine Z1y ?_
                exact Z3f
            · exact Z3g
          · refine Z33 ?_
            exact Z3g
        · refine Z33 ?_
          refine Z33 ?_
          exact Z3g
      exact Z1z
theorem mul_in {a b : Int} (ha : 0 ≤ a ∧ a ≤ 64) (hb : 0 ≤ b ∧ b ≤ 128) : 0 ≤ a * b ∧ a * b ≤ 8192 := ⟨Int.mul_nonneg ha.1 hb.1, Int.le_trans (Int.mul_le_mul ha.2 hb.2 hb.1 (by decide)) (by decide)⟩
structure Asks3 where
  n : Int
  c : Int
  g : Int
def asks (s : Spec) : Asks3 := if sright s then ⟨s.nodes, s.nodes * s.cores, s.nodes * s.gpus⟩ else ⟨0, 0, 0⟩
def sPart (s : Spec) (n : Int) : Spec × Int := if !sright s || decide (n < 0) then (spec0, 1) else if s.nodes ≤ n then (spec0, 6) else (⟨s.nodes - n, s.cores, s.gpus, s.tag, s.whole, s.long, s.prio⟩, 0)
theorem spec_Ends (s : Spec) (t : Int) (H : Heap) : AC Tryz.prog 130 [.agg (eSpec s), .int .i64 t] H (Ret (.int .i64 (sEnds s t)) H) := by
  refine AC.body (N := 14) [.tmp 4] Tryz.func130 rfl rfl rfl (Nat.le_of_ble_eq_true rfl) fun B hB => ?_
  refine Z2 ?_
  refine Z2t ?_
  refine Z1a ?_
  refine Z3t ?_
  refine ao_ret (spec_Right _ _) rfl (by decide) ?_
  refine Z3u ?_
  refine aw_cond rfl (fun hc => ?_) (fun hc => ?_)
  · refine Z10 ?_
    refine Z3v ?_
    refine Zc ?_
    rw [show sEnds s t = plus t 0 by simp at hc; simp [sEnds, hc]]
    exact Zd
  · refine Z10 ?_
    refine Z2w ?_
    refine Z3v ?_
    refine Zc ?_
    rw [show sEnds s t = plus t s.long by simp at hc; simp [sEnds, hc]]
    exact Zd
theorem ref07_Ends (s : Spec) (t : Int) (H : Heap) (ht : s.tag.size ≤ 9223372036854775807) : AC Tryz.prog 190 [.agg (eSpec s), .int .i64 t] H (Ret (.int .i64 (sEnds s t)) H) := by
  refine AC.body (N := 13) [.tmp 4] Tryz.func190 rfl rfl rfl (Nat.le_of_ble_eq_true rfl) fun B hB => ?_
  refine Z2 ?_
  refine Z2t ?_
  refine Z1a ?_
  refine Z1a ?_
  refine Z3t ?_
  refine ao_ret (ref07_Right _ _ (by assumption)) rfl (by decide) ?_
  refine Zb ?_
  refine aw_cond rfl (fun hc => ?_) (fun hc => ?_)
  · refine Z3w ?_
    refine Z15 ?_
    refine Za ?_
    refine Z3x ?_
    refine Zc ?_
    rw [show sEnds s t = plus t s.long by simp [sEnds, hc]]
    exact Zd
  · refine Z2q ?_
    refine Z3x ?_
    refine Zc ?_
    rw [show sEnds s t = plus t 0 by simp [sEnds, hc]]
    exact Zd
def ssize (s : Spec) : Int := s.nodes * (s.cores + s.gpus)
def sorder (a b : Spec) : Int := orI [cmpI b.prio a.prio, cmpI (ssize a) (ssize b), cmpI a.long b.long]
end Go.Av

/-
  TWO STRUCTS OF PLAIN CELLS ARE COMPARED.
-/
namespace Go.Av
def flatv : AV → Option Value
  | .int k n => some (.int k n)
  | .bool b => some (.bool b)
  | .str s => some (.string s)
  | _ => none
theorem VR.flat_eq {O : Nat → Prop} {w : World} {S : List Slot} {v : AV} {u u' : Value} (h : VR O w S v u) (hf : flatv v = some u') : u = u' := by
  cases h <;> simp [flatv] at hf <;> exact hf
theorem VR.agg_flat {O : Nat → Prop} {w : World} {S : List Slot} {cs : List AV} {us : List Value} {u : Value} (h : VR O w S (.agg cs) u) (hf : cs.map flatv = us.map some) : u = .agg us.toArray := by
  cases h with
  | @agg _ _ vs hn hl h =>
    congr 1
    have hlen : cs.length = us.length := by simpa using congrArg List.length hf
    apply Array.ext
    · simp; omega
    · intro j h1 h2
      have hj : j < cs.length := by omega
      have hju : j < us.length := by omega
      have e : flatv cs[j] = some us[j] := by
        have := congrArg (·[j]?) hf
        simpa [hj, hju] using this
      have := (h j cs[j] vs[j] (List.getElem?_eq_getElem hj) (Array.getElem?_eq_getElem h1)).flat_eq e
      simpa using this
section
variable {P : Program} {N : Nat} {env : Env} {H : Heap} {ty : TypeId}
theorem o_eqAgg {t t' : TypeId} {x y : Operand} {cs ds : List AV} {us vs : List Value} {b : Bool} (hx : aev env x = .agg cs) (hy : aev env y = .agg ds) (hu : cs.map flatv = us.map some) (hv : ds.map flatv = vs.map some)
    (hm : P.eqGuardType P.depth t = false) (hb : ∀ w, (Op.equalIn 10000 t (.agg us.toArray) (.agg vs.toArray)).run P w = .ok b w) : V1 P N (.binOp .eql t x y t') ty env H (.bool b) := by
  intro S a w hc
  have h1 := hc.ev x
  have h2 := hc.ev y
  rw [hx] at h1
  rw [hy] at h2
  have e1 := h1.agg_flat hu
  have e2 := h2.agg_flat hv
  refine ⟨.bool b, fun _ _ _ _ => ?_, .bool⟩
  simp only [execOp, e1, e2, Sem.run_bind, run_eqGuard_agg w .eql t x y _ _ hm, Result.andThen_ok, run_eql_struct, hb w, Sem.run_pure]
theorem o_neAgg {t t' : TypeId} {x y : Operand} {cs ds : List AV} {us vs : List Value} {b : Bool} (hx : aev env x = .agg cs) (hy : aev env y = .agg ds) (hu : cs.map flatv = us.map some) (hv : ds.map flatv = vs.map some)
    (hm : P.eqGuardType P.depth t = false) (hb : ∀ w, (Op.equalIn 10000 t (.agg us.toArray) (.agg vs.toArray)).run P w = .ok b w) : V1 P N (.binOp .neq t x y t') ty env H (.bool (!b)) := by
  intro S a w hc
  have h1 := hc.ev x
  have h2 := hc.ev y
  rw [hx] at h1
  rw [hy] at h2
  have e1 := h1.agg_flat hu
  have e2 := h2.agg_flat hv
  refine ⟨.bool (!b), fun _ _ _ _ => ?_, .bool⟩
  simp only [execOp, e1, e2, Sem.run_bind, run_eqGuard_agg w .neq t x y _ _ hm, Result.andThen_ok, run_neq_struct, hb w, Sem.run_pure]
end
end Go.Av

namespace Go.Av
open Go.Proofs
set_option maxRecDepth 10000
set_option linter.unusedSimpArgs false
set_option linter.unusedVariables false

def uSpec (s : Spec) : List Value := [.int .i64 s.nodes, .int .i64 s.cores, .int .i64 s.gpus, .string s.tag, .bool s.whole, .int .i64 s.long, .int .i64 s.prio]
theorem eqSpec_run (a b : Spec) (w : World) : (Op.equalIn 10000 50 (.agg (uSpec a).toArray) (.agg (uSpec b).toArray)).run Tryz.prog w = .ok (decide (a = b)) w := by
  have hS : Tryz.prog.underlying 50 = some (.struct (Tryz.prog.fieldsOf 50)) := by kernel_rfl
  have hp : Tryz.prog.stoodInHeld 50 = false := by kernel_rfl
  rw [show (10000 : Nat) = 9999 + 1 from rfl, run_equalIn_agg w 9999 50 _ _ hS hp]
  have u3 := Tryz.underlying3
  have a3 := Tryz.isAgg3
  have z3 := Tryz.sizeOf3
  simp only [uSpec, Program.fieldsOf, Tryz.underlying50]
  go_simp
  have ht : a.tag.toList = b.tag.toList ↔ a.tag = b.tag := by have := str_eq a.tag b.tag; rw [Bool.eq_iff_iff] at this; simpa using this
  simp only [ht]
  cases a; cases b
  simp only [Spec.mk.injEq]
  (repeat' split) <;> simp_all
end Go.Av

/-
  AN ELEMENT OF AN ARRAY OF ARRAYS.
-/
namespace Go.Av
theorem o_indexN {P : Program} {N : Nat} {env : Env} {H : Heap} {ty : TypeId} {t e : TypeId} {x y : Operand} {m sz : Nat} {k : IntKind} {n : Int} {cs ds : List AV} [hs : ArI P t m e] [TyI P e true sz] (hx : aev env x = .agg cs) (hy : aev env y = .int k n) (h0 : 0 ≤ n) (h1 : n < m) (hd : (cs.drop (n.toNat * sz)).take sz = ds) (hle : ds.length = sz) : V1 P N (.index t x y) ty env H (.agg ds) := by
  intro S a w hc
  obtain ⟨vs, he, hn, hl, h⟩ := ev_agg hc hx
  exact ⟨.agg (vs.extract (n.toNat * sz) (n.toNat * sz + sz)), fun _ _ _ _ => by
    simp [execOp, he, ev_int hc hy, Instr.index, asIntOf, run_und hs.ud, h0, h1, run_sz (P := P) (t := e) (agg := true) (sz := sz), run_partN (P := P) (t := e)], part_agg hn hl h hd hle⟩
end Go.Av

namespace Go.Av
open Go.Proofs
set_option maxRecDepth 10000
set_option linter.unusedSimpArgs false
set_option linter.unusedVariables false


abbrev eJob (j : Job) : List AV := [.int .i64 j.id, .int .i64 j.spec.nodes, .int .i64 j.spec.cores, .int .i64 j.spec.gpus, .str j.spec.tag, .bool j.spec.whole, .int .i64 j.spec.long, .int .i64 j.spec.prio, .pl (j.needs.map eI), .int .i64 j.state, .int .i64 j.came, .int .i64 j.frm, .int .i64 j.to]
theorem eI_len (l : List Int) : ∀ r ∈ l.map eI, r.length = 1 := rows_len (e := eI) (n := 1) (fun _ => rfl) l
theorem eI_bel (n : Nat) (l : List Int) : ∀ r ∈ l.map eI, AV.bels n r = true := rows_bel (e := eI) (fun _ => rfl) l
theorem ref11_time (t : Int) (H : Heap) : AC Tryz.prog 180 [.int .i64 t] H (Ret (.bool (tm t)) H) := by
  refine AC.body (N := 9) [.tmp 2] Tryz.func180 rfl rfl rfl (Nat.le_of_ble_eq_true rfl) fun B hB => ?_
  refine Zh ?_
  refine aw_out 2 (.bool (tm t)) ?_ ?_
  · refine Za ?_
    refine Z20 ?_
    refine ao_split rfl rfl (fun hg2 => ?_) (fun hg2 => ?_)
    · refine Zy ?_
      refine Zo ?_
      exact Z3y
    · refine Zt ?_
      exact Z3y
  exact Z1z
theorem slices_CloneI (l : List Int) (H : Heap) (hn : l.length ≤ 1000000) : AC Tryz.prog 109 [.pl (l.map eI)] H (Ret (.pl (l.map eI)) H) := by
  refine AC.body (N := 8) [.tmp 2] Tryz.func109 rfl rfl rfl (Nat.le_of_ble_eq_true rfl) fun B hB => ?_
  refine Z41 ?_
  refine Z42 ?_
  refine ao_cons rfl (by rintro _ ⟨⟩; decide) (o_eqNil rfl rfl _ _ _ _) ?_ (fun _ _ h => h.elim)
  rintro _ _ ⟨nb, rfl, hnb, rfl⟩
  refine Zb ?_
  refine aw_cond rfl (fun hc => ?_) (fun hc => ?_)
  · subst hc
    have hb : l = [] := by
      cases l with
      | nil => rfl
      | cons x b => simp at hnb
    subst hb
    refine Z43 ?_
    refine aw_nslpl 2 rfl ?_
    exact aw_ret (e_done hB (r_tmp rfl .nil) rfl rfl)
  · refine Z2 ?_
    refine Z44 ?_
    refine Z45 ?_
    refine ao2 (by rintro _ ⟨⟩; decide) (g_append_new (sz := 1) (bytes := 8) rfl (Src.pl rfl (eI_len l)) rfl (by decide) (by simp; omega) (by simp; omega) (eI_bel 0 l)) ?_
    exact Z47

/-! ### needs -/
def lastD (l : List Int) (k : Nat) : Int := if k = 0 then 0 else (l[k - 1]?).getD 0
theorem ndB_last {id : Int} {l : List Int} {k : Nat} {n : Int} (hn : l[k]? = some n) (h : ∀ i, i < k → ndB id l i = true) : ndB id l k = !(decide (n ≤ lastD l k) || decide (id ≤ n)) := by
  rw [ndB_get hn, lastD]
  cases k with
  | zero => simp; rw [Bool.eq_iff_iff]; simp; omega
  | succ k =>
    have hk : k < l.length := by have := (List.getElem?_eq_some_iff.1 hn).1; omega
    have hm : l[k]? = some l[k] := List.getElem?_eq_getElem hk
    have h1 := h k (by omega)
    rw [ndB_get hm] at h1
    simp only [Bool.and_eq_true, decide_eq_true_eq] at h1
    simp only [Nat.add_sub_cancel, hm, Option.getD_some]
    rw [Bool.eq_iff_iff]
    simp
    omega
theorem job_needs (j : Job) (H : Heap) : AC Tryz.prog 163 [.agg (eJob j)] H (Ret (.bool (jneeds j)) H) := by
  refine AC.body (N := 28) [.tmp 2] Tryz.func163 rfl rfl rfl (Nat.le_of_ble_eq_true rfl) fun B hB => ?_
  refine Z49 ?_
  refine Z1o ?_
  refine Z4b ?_
  refine Z2k ?_
  refine aw_cond rfl (fun hc => ?_) (fun hc => ?_)
  · refine Zh ?_
    rw [show jneeds j = false by simp at hc; simp [jneeds]; omega]
    exact Zd
  have hl : j.needs.length ≤ 16 := by simp at hc; omega
  rw [show jneeds j = ndall j.id j.needs by simp [jneeds, hl]]
  refine Z8 ?_
  refine Z4b ?_
  refine Z4c ?_
  refine aw_loop (G := Nat) (fun k => k ≤ j.needs.length ∧ ∀ i, i < k → ndB j.id j.needs i = true) (fun k => [(1, .pt (Lid H.length 0) 0 0 0), (3, .int .i64 (lastD j.needs k)), (11, .pl (j.needs.map eI)), (12, .int .i64 (j.needs.length : Int)), (13, .int .i64 (k : Int))]) (fun _ => H ++ [⟨0, 13, [eJob j]⟩]) (fun k => j.needs.length - k) 0 ⟨Nat.zero_le _, fun i hi => by omega⟩ (by repeat (first | exact Sub.nil | refine Sub.cons (by first | rfl | (simp [get]; done)) ?_)) (Fit.refl _ _) ?_
  rintro k ⟨hk, hno⟩
  refine Z4d ?_
  refine aw_cond rfl (fun hc => ?_) (fun hc => ?_)
  · have hlt : k < j.needs.length := by simpa using hc
    obtain ⟨x, hx, hxl⟩ := get_in hlt
    have hr := map_get eI hx
    have hok := ndB_last hx hno
    refine Z2 ?_
    refine Z4f ?_
    refine Zc ?_
    refine aw_out 25 (.bool (!ndB j.id j.needs k)) ?_ ?_
    · refine Z2r ?_
      refine Zk ?_
      refine ao_split rfl rfl (fun hg3 => ?_) (fun hg3 => ?_)
      · refine Z4h ?_
        exact Z4i
      · refine Zl ?_
        refine Z3s ?_
        refine Zn ?_
        exact Z4i
    refine Z1 ?_
    refine aw_cond rfl (fun hc => ?_) (fun hc => ?_)
    · refine Zh ?_
      rw [nd_false hlt (by simpa using hc)]
      exact Zd
    · have hlast : lastD j.needs (k + 1) = x := by rw [lastD, if_neg (by omega), Nat.add_sub_cancel, hx]; rfl
      refine Z10 ?_
      refine Z1a ?_
      refine Z4k ?_
      refine ⟨k + 1, by omega, ⟨by omega, fun i hi => ?_⟩, by rw [hlast]; exact (by repeat (first | exact Sub.nil | refine Sub.cons (by first | rfl | (simp [get]; done)) ?_)), .refl _ _⟩
      rcases Nat.lt_or_eq_of_le (Nat.le_of_lt_succ hi) with h | h
      · exact hno i h
      · subst h; simpa using hc
  · have : k = j.needs.length := by simp at hc; omega
    subst this
    rw [nd_true hno]
    exact Z4l

/-! ### times -/
set_option maxHeartbeats 0 in
theorem job_times (j : Job) (H : Heap) : AC Tryz.prog 164 [.agg (eJob j)] H (Ret (.bool (jtimes j)) H) := by
  refine AC.body (N := 78) [.tmp 2] Tryz.func164 rfl rfl rfl (Nat.le_of_ble_eq_true rfl) fun B hB => ?_
  refine Z49 ?_
  refine Zg ?_
  refine aw_out 3 (.bool (jbegun j)) ?_ ?_
  · refine Z2w ?_
    refine Z4m ?_
    refine Zj ?_
    refine ao_split rfl rfl (fun hg3 => ?_) (fun hg3 => ?_)
    · refine Z2z ?_
      refine Z3s ?_
      refine Zo ?_
      exact Z4n
    · refine Z4o ?_
      exact Z4n
  refine Z1 ?_
  refine aw_out 4 (.bool (jended j)) ?_ ?_
  · refine Z2w ?_
    refine Z4m ?_
    refine Zj ?_
    refine ao_split rfl rfl (fun hg3 => ?_) (fun hg3 => ?_)
    · refine Z2z ?_
      refine Z2z ?_
      refine Z2z ?_
      refine Z4p ?_
      refine Z23 ?_
      refine Zo ?_
      exact Z4q
    · refine Z29 ?_
      refine Z29 ?_
      refine Zo ?_
      exact Z4q
  refine Z3w ?_
  refine Z7 ?_
  refine Z12 ?_
  refine aw_cond rfl (fun hc => ?_) (fun hc => ?_)
  · have hs : j.state = 0 := by simpa using hc
    refine Z1 ?_
    refine Z1 ?_
    refine aw_cond rfl (fun hc => ?_) (fun hc => ?_)
    · refine Z1 ?_
      refine aw_out 2 (.bool (jtimes j)) ?_ ?_
      · refine Z3o ?_
        refine ao_split rfl rfl (fun hg3 => ?_) (fun hg3 => ?_)
        · refine Z3q ?_
          exact Z4s
        · refine Z1y ?_
          exact Z4r
      exact Z1z
    · simp [hs] at hc
  · have h0 : j.state ≠ 0 := by simpa using hc
    refine Z4t ?_
    refine aw_cond rfl (fun hc => ?_) (fun hc => ?_)
    · have hs : j.state = 1 := by simpa using hc
      refine Z1 ?_
      refine aw_out 2 (.bool (jtimes j)) ?_ ?_
      · refine Z3o ?_
        refine ao_split rfl rfl (fun hg3 => ?_) (fun hg3 => ?_)
        · refine Z3q ?_
          exact Z4s
        · refine Z1y ?_
          exact Z4r
      exact Z1z
    · have h1 : j.state ≠ 1 := by simpa using hc
      refine Z4t ?_
      refine aw_cond rfl (fun hc => ?_) (fun hc => ?_)
      · have hs : j.state = 2 := by simpa using hc
        refine Z1 ?_
        refine aw_out 2 (.bool (jtimes j)) ?_ ?_
        · refine Z3d ?_
          refine ao_split rfl rfl (fun hg1 => ?_) (fun hg1 => ?_)
          · refine Z3q ?_
            exact Z4s
          · refine Z1y ?_
            exact Z4r
        exact Z1z
      · have h2 : j.state ≠ 2 := by simpa using hc
        refine Z4t ?_
        refine aw_cond rfl (fun hc => ?_) (fun hc => ?_)
        · have hs : j.state = 3 := by simpa using hc
          refine Z1 ?_
          refine Z1 ?_
          refine aw_cond rfl (fun hc => ?_) (fun hc => ?_)
          · refine Z1 ?_
            refine aw_out 2 (.bool (jtimes j)) ?_ ?_
            · refine Z3d ?_
              refine ao_split rfl rfl (fun hg1 => ?_) (fun hg1 => ?_)
              · refine Z24 ?_
                exact Z4s
              · refine Zr ?_
                exact Z4s
            exact Z1z
          · simp [hs] at hc
        · have h3 : j.state ≠ 3 := by simpa using hc
          refine Z4t ?_
          refine aw_cond rfl (fun hc => ?_) (fun hc => ?_)
          · have hs : j.state = 4 := by simpa using hc
            refine Z1 ?_
            refine aw_out 2 (.bool (jtimes j)) ?_ ?_
            · refine Z3d ?_
              refine ao_split rfl rfl (fun hg1 => ?_) (fun hg1 => ?_)
              · refine Z24 ?_
                exact Z4s
              · refine Zr ?_
                exact Z4s
            exact Z1z
          · have h4 : j.state ≠ 4 := by simpa using hc
            refine Z4t ?_
            refine aw_cond rfl (fun hc => ?_) (fun hc => ?_)
            · have hs : j.state = 5 := by simpa using hc
              refine Z1 ?_
              refine aw_out 2 (.bool (jtimes j)) ?_ ?_
              · refine Z3d ?_
                refine ao_split rfl rfl (fun hg1 => ?_) (fun hg1 => ?_)
                · refine Z38 ?_
                  refine Z24 ?_
                  exact Z4s
                · refine Z3r ?_
                  refine ao_split rfl rfl (fun hg6 => ?_) (fun hg6 => ?_)
                  · refine Z24 ?_
                    exact Z4s
                  · refine Zr ?_
                    exact Z4s
              exact Z1z
            · have h5 : j.state ≠ 5 := by simpa using hc
              refine Z1 ?_
              refine aw_out 2 (.bool (jtimes j)) ?_ ?_
              · refine Z3o ?_
                refine ao_split rfl rfl (fun hg3 => ?_) (fun hg3 => ?_)
                · refine Z3r ?_
                  refine ao_split rfl rfl (fun hg8 => ?_) (fun hg8 => ?_)
                  · refine Z24 ?_
                    refine Zo ?_
                    exact Z4u
                  · refine Z4v ?_
                    exact Z4u
                · refine Z33 ?_
                  refine Z4v ?_
                  exact Z4u
              exact Z1z
end Go.Av

namespace Go.Av
open Go.Proofs
set_option maxRecDepth 10000
set_option linter.unusedSimpArgs false
set_option linter.unusedVariables false


theorem job_Right (j : Job) (H : Heap) : AC Tryz.prog 124 [.agg (eJob j)] H (Ret (.bool (jright j)) H) := by
  refine AC.body (N := 29) [.tmp 2] Tryz.func124 rfl rfl rfl (Nat.le_of_ble_eq_true rfl) fun B hB => ?_
  refine Z49 ?_
  refine Zg ?_
  refine aw_out 2 (.bool (jright j)) ?_ ?_
  · refine Z2w ?_
    refine Z20 ?_
    refine ao_split rfl rfl (fun hg3 => ?_) (fun hg3 => ?_)
    · refine Z2z ?_
      refine Zx ?_
      refine Z31 ?_
      refine ao_split rfl rfl (fun hg8 => ?_) (fun hg8 => ?_)
      · refine Z2x ?_
        refine Z4w ?_
        refine ao_y rfl rfl (by decide) (V2.call (spec_Right _ _) rfl) ?_
        refine Z31 ?_
        refine ao_split rfl rfl (fun hg13 => ?_) (fun hg13 => ?_)
        · refine Z4x ?_
          refine ao_y rfl rfl (by decide) (V2.call (job_needs _ _) rfl) ?_
          refine Z31 ?_
          refine ao_split rfl rfl (fun hg17 => ?_) (fun hg17 => ?_)
          · refine Z2z ?_
            refine Z4y ?_
            refine Z31 ?_
            refine ao_split rfl rfl (fun hg22 => ?_) (fun hg22 => ?_)
            · refine Z4x ?_
              refine ao_y rfl rfl (by decide) (V2.call (job_times _ _) rfl) ?_
              refine Zo ?_
              exact Z4z
            · refine Zt ?_
              exact Z4z
          · refine Z51 ?_
            exact Z4z
        · refine Zs ?_
          refine Z31 ?_
          refine Z51 ?_
          exact Z4z
      · refine Z50 ?_
        refine Z31 ?_
        refine Z51 ?_
        exact Z4z
    · refine Z33 ?_
      refine Z50 ?_
      refine Z31 ?_
      refine Z51 ?_
      exact Z4z
  exact Z1z
set_option maxHeartbeats 0 in
theorem ref11_Right (j : Job) (H : Heap) (ht : j.spec.tag.size ≤ 9223372036854775807) : AC Tryz.prog 144 [.agg (eJob j)] H (Ret (.bool (jright j)) H) := by
  have c1 := fun H => ref07_Right j.spec H ht
  refine AC.body (N := 141) [.tmp 2] Tryz.func144 rfl rfl rfl (Nat.le_of_ble_eq_true rfl) fun B hB => ?_
  refine Z49 ?_
  refine Zg ?_
  refine aw_out 29 (.bool (!(decide (1 ≤ j.id) && decide (j.id ≤ 1073741824) && sright j.spec && decide (j.needs.length ≤ 16) && tm j.came))) ?_ ?_
  · refine Z2w ?_
    refine Zv ?_
    refine ao_split rfl rfl (fun hg3 => ?_) (fun hg3 => ?_)
    · refine Z38 ?_
      refine Z52 ?_
      refine Z53 ?_
      exact Z54
    · refine Z3c ?_
      refine ao_split rfl rfl (fun hg8 => ?_) (fun hg8 => ?_)
      · refine Z52 ?_
        refine Z53 ?_
        exact Z54
      · refine Z2x ?_
        refine Z4w ?_
        refine ao_y rfl rfl (by decide) (V2.call (c1 _) rfl) ?_
        refine Z1w ?_
        refine Z31 ?_
        refine ao_split rfl rfl (fun hg14 => ?_) (fun hg14 => ?_)
        · refine Z53 ?_
          exact Z54
        · refine Z55 ?_
          refine Z56 ?_
          refine Z3a ?_
          refine Z31 ?_
          refine ao_split rfl rfl (fun hg20 => ?_) (fun hg20 => ?_)
          · refine Z4h ?_
            exact Z54
          · refine Z2z ?_
            refine Z57 ?_
            refine Z26 ?_
            exact Z54
  refine Z1 ?_
  refine aw_cond rfl (fun hc => ?_) (fun hc => ?_)
  · refine Zh ?_
    rw [show jright j = false by simp only [jright, jneeds]; revert hc; cases decide (1 ≤ j.id) <;> cases decide (j.id ≤ 1073741824) <;> cases sright j.spec <;> cases decide (j.needs.length ≤ 16) <;> cases tm j.came <;> simp]
    exact Zd
  have hc0 : (((decide (1 ≤ j.id) = true ∧ decide (j.id ≤ 1073741824) = true) ∧ sright j.spec = true) ∧ decide (j.needs.length ≤ 16) = true) ∧ tm j.came = true := by simpa only [Bool.not_eq_false', Bool.and_eq_true] using hc
  obtain ⟨⟨⟨⟨h1, h2⟩, h3⟩, h4⟩, h5⟩ := hc0
  have hl : j.needs.length ≤ 16 := by simpa using h4
  have hjr : jright j = (ndall j.id j.needs && jtimes j) := by simp only [jright, jneeds, h1, h2, h3, h4, h5, Bool.true_and, Bool.and_true]
  rw [hjr]
  refine Z58 ?_
  refine aw_loop (G := Nat) (fun k => k ≤ j.needs.length ∧ ∀ i, i < k → ndB j.id j.needs i = true) (fun k => [(1, .pt (Lid H.length 0) 0 0 0), (3, .int .i64 (k : Int))]) (fun _ => H ++ [⟨0, 13, [eJob j]⟩]) (fun k => j.needs.length - k) 0 ⟨Nat.zero_le _, fun i hi => by omega⟩ (by repeat (first | exact Sub.nil | refine Sub.cons (by first | rfl | (simp [get]; done)) ?_)) (Fit.refl _ _) ?_
  rintro k ⟨hk, hno⟩
  refine Z59 ?_
  refine Z1e ?_
  refine aw_cond rfl (fun hc => ?_) (fun hc => ?_)
  · have hlt : k < j.needs.length := by simpa using hc
    obtain ⟨x, hx, hxl⟩ := get_in hlt
    have hr := map_get eI hx
    obtain ⟨m, hm, _⟩ := get_in (l := j.needs) (k := ((k : Int) - 1).toNat) (by omega)
    have hr1 := map_get eI hm
    have hnd : ndB j.id j.needs k = (decide (1 ≤ x) && decide (x < j.id) && (decide (k = 0) || decide (m < x))) := by
      rw [ndB_get hx]
      cases k with
      | zero => simp
      | succ k =>
        have e : (((k + 1 : Nat) : Int) - 1).toNat = k := by omega
        rw [e] at hm
        simp [hm]
    clear hxl
    refine Z1 ?_
    refine aw_of_out 70 (.bool (!ndB j.id j.needs k)) ?_ ?_
    · refine Z1g ?_
      refine Z5a ?_
      refine Z5b ?_
      refine Z5c ?_
      first | refine aqp 3 rfl (by decide +kernel) (by decide) (fun G => w_indexAddrpN rfl rfl hr rfl) ?_ | refine aqp 3 rfl (by decide +kernel) (by decide) (fun G => w_indexAddrpN rfl rfl hr1 rfl) ?_ | refine aqp 3 rfl (by decide +kernel) (by decide) (fun G => w_indexAddrpN rfl rfl hr2 rfl) ?_ | refine aqp 3 rfl (by decide +kernel) (by decide) (fun G => w_indexAddrN rfl (lk rfl rfl) rfl rfl rfl (by omega)) ?_ | refine aqp 3 rfl (by decide +kernel) (by decide) (fun G => w_indexAddrp rfl rfl (by omega) hr rfl) ?_ | refine aqp 3 rfl (by decide +kernel) (by decide) (fun G => w_indexAddrp rfl rfl (by omega) hr1 rfl) ?_ | refine aqp 3 rfl (by decide +kernel) (by decide) (fun G => w_indexAddrp rfl rfl (by omega) hr2 rfl) ?_ | refine aqp 3 rfl (by decide +kernel) (by decide) (fun G => w_indexAddr rfl (lk rfl rfl) rfl rfl rfl (by omega) (by omega)) ?_
      first | refine aqp 4 rfl (by decide +kernel) (by decide) (fun G => w_load1 (v := .int _ _) rfl (lk rfl rfl) rfl rfl rfl) ?_ | refine aqp 4 rfl (by decide +kernel) (by decide) (fun G => w_load1 (v := .int _ _) rfl (lk rfl rfl) rfl (zadd hr) rfl) ?_ | refine aqp 4 rfl (by decide +kernel) (by decide) (fun G => w_load1 (v := .int _ _) rfl (lk rfl rfl) rfl (zadd hr1) rfl) ?_ | refine aqp 4 rfl (by decide +kernel) (by decide) (fun G => w_load1 (v := .int _ _) rfl (lk rfl rfl) rfl (zadd hr2) rfl) ?_ | refine aqp 4 rfl (by decide +kernel) (by decide) (fun G => o_load1p (v := .int _ _) rfl hr rfl) ?_ | refine aqp 4 rfl (by decide +kernel) (by decide) (fun G => o_load1p (v := .int _ _) rfl hr1 rfl) ?_ | refine aqp 4 rfl (by decide +kernel) (by decide) (fun G => o_load1p (v := .int _ _) rfl hr2 rfl) ?_ | refine aqp 4 rfl (by decide +kernel) (by decide) (fun G => w_load1 (v := .int _ _) rfl (lkF hF) rfl rfl rfl) ?_
      refine aq0 5 rfl (by decide +kernel) (by decide) (fun _ => o_lt rfl rfl) ?_
      refine Z5d ?_
      refine aq_split (g := 43) rfl (fun hg6 => ?_) (fun hg6 => ?_)
      · refine aqn0 (g := 43) 7 rfl (by decide +kernel) (by decide) rfl rfl rfl ?_
        refine aqn0 (g := 43) 8 rfl (by decide +kernel) (by decide) rfl rfl rfl ?_
        refine aqn0 (g := 43) 9 rfl (by decide +kernel) (by decide) rfl rfl rfl ?_
        refine aqn0 (g := 43) 10 rfl (by decide +kernel) (by decide) rfl rfl rfl ?_
        refine aqn0 (g := 43) 11 rfl (by decide +kernel) (by decide) rfl rfl rfl ?_
        refine aqn0 (g := 43) 12 rfl (by decide +kernel) (by decide) rfl rfl rfl ?_
        refine aqn0 (g := 43) 13 rfl (by decide +kernel) (by decide) rfl rfl rfl ?_
        refine aqn0 (g := 43) 14 rfl (by decide +kernel) (by decide) rfl rfl rfl ?_
        refine Z5e ?_
        refine Z5f ?_
        refine Z5g ?_
        refine Z5h ?_
        refine Z5i ?_
        refine Z5j ?_
        refine Z5k ?_
        refine Z5l ?_
        refine Z5m ?_
        refine Z5n ?_
        refine Z5o ?_
        refine Z5p ?_
        refine Z5q ?_
        refine Z5r ?_
        refine Z5s ?_
        refine Z5t ?_
        refine Z5u ?_
        refine Z5v ?_
        refine Z5w ?_
        exact Z5x
      · first | refine aqyp (g := 43) 7 rfl (by decide +kernel) (by decide) rfl rfl (fun G => w_fieldAddr rfl (lk rfl rfl) rfl (by decide)) ?_ | refine aqyp (g := 43) 7 rfl (by decide +kernel) (by decide) rfl rfl (fun G => w_fieldAddrp rfl (by decide)) ?_ | refine aqyp (g := 43) 7 rfl (by decide +kernel) (by decide) rfl rfl (fun G => w_fieldAddr rfl (lkF hF) rfl (by decide)) ?_
        first | refine aqyp (g := 43) 8 rfl (by decide +kernel) (by decide) rfl rfl (fun G => w_load1 (v := .sl _ _ _ _ _) rfl (lk rfl rfl) rfl rfl rfl) ?_ | refine aqyp (g := 43) 8 rfl (by decide +kernel) (by decide) rfl rfl (fun G => w_load1 (v := .pl _) rfl (lk rfl rfl) rfl rfl rfl) ?_ | refine aqyp (g := 43) 8 rfl (by decide +kernel) (by decide) rfl rfl (fun G => w_load1 (v := .nsl) rfl (lk rfl rfl) rfl rfl rfl) ?_ | refine aqyp (g := 43) 8 rfl (by decide +kernel) (by decide) rfl rfl (fun G => w_load1 (v := .sl _ _ _ _ _) rfl (lk rfl rfl) rfl (zadd hr) rfl) ?_ | refine aqyp (g := 43) 8 rfl (by decide +kernel) (by decide) rfl rfl (fun G => w_load1 (v := .sl _ _ _ _ _) rfl (lk rfl rfl) rfl (zadd hr1) rfl) ?_ | refine aqyp (g := 43) 8 rfl (by decide +kernel) (by decide) rfl rfl (fun G => w_load1 (v := .sl _ _ _ _ _) rfl (lk rfl rfl) rfl (zadd hr2) rfl) ?_ | refine aqyp (g := 43) 8 rfl (by decide +kernel) (by decide) rfl rfl (fun G => w_load1 (v := .pl _) rfl (lk rfl rfl) rfl (zadd hr) rfl) ?_ | refine aqyp (g := 43) 8 rfl (by decide +kernel) (by decide) rfl rfl (fun G => w_load1 (v := .pl _) rfl (lk rfl rfl) rfl (zadd hr1) rfl) ?_ | refine aqyp (g := 43) 8 rfl (by decide +kernel) (by decide) rfl rfl (fun G => w_load1 (v := .pl _) rfl (lk rfl rfl) rfl (zadd hr2) rfl) ?_ | refine aqyp (g := 43) 8 rfl (by decide +kernel) (by decide) rfl rfl (fun G => w_load1 (v := .nsl) rfl (lk rfl rfl) rfl (zadd hr) rfl) ?_ | refine aqyp (g := 43) 8 rfl (by decide +kernel) (by decide) rfl rfl (fun G => w_load1 (v := .nsl) rfl (lk rfl rfl) rfl (zadd hr1) rfl) ?_ | refine aqyp (g := 43) 8 rfl (by decide +kernel) (by decide) rfl rfl (fun G => w_load1 (v := .nsl) rfl (lk rfl rfl) rfl (zadd hr2) rfl) ?_ | refine aqyp (g := 43) 8 rfl (by decide +kernel) (by decide) rfl rfl (fun G => o_load1p (v := .sl _ _ _ _ _) rfl hr rfl) ?_ | refine aqyp (g := 43) 8 rfl (by decide +kernel) (by decide) rfl rfl (fun G => o_load1p (v := .sl _ _ _ _ _) rfl hr1 rfl) ?_ | refine aqyp (g := 43) 8 rfl (by decide +kernel) (by decide) rfl rfl (fun G => o_load1p (v := .sl _ _ _ _ _) rfl hr2 rfl) ?_ | refine aqyp (g := 43) 8 rfl (by decide +kernel) (by decide) rfl rfl (fun G => o_load1p (v := .pl _) rfl hr rfl) ?_ | refine aqyp (g := 43) 8 rfl (by decide +kernel) (by decide) rfl rfl (fun G => o_load1p (v := .pl _) rfl hr1 rfl) ?_ | refine aqyp (g := 43) 8 rfl (by decide +kernel) (by decide) rfl rfl (fun G => o_load1p (v := .pl _) rfl hr2 rfl) ?_ | refine aqyp (g := 43) 8 rfl (by decide +kernel) (by decide) rfl rfl (fun G => o_load1p (v := .nsl) rfl hr rfl) ?_ | refine aqyp (g := 43) 8 rfl (by decide +kernel) (by decide) rfl rfl (fun G => o_load1p (v := .nsl) rfl hr1 rfl) ?_ | refine aqyp (g := 43) 8 rfl (by decide +kernel) (by decide) rfl rfl (fun G => o_load1p (v := .nsl) rfl hr2 rfl) ?_ | refine aqyp (g := 43) 8 rfl (by decide +kernel) (by decide) rfl rfl (fun G => w_load1 (v := .sl _ _ _ _ _) rfl (lkF hF) rfl rfl rfl) ?_ | refine aqyp (g := 43) 8 rfl (by decide +kernel) (by decide) rfl rfl (fun G => w_load1 (v := .pl _) rfl (lkF hF) rfl rfl rfl) ?_ | refine aqyp (g := 43) 8 rfl (by decide +kernel) (by decide) rfl rfl (fun G => w_load1 (v := .nsl) rfl (lkF hF) rfl rfl rfl) ?_
        refine aqy0 (g := 43) 9 rfl (by decide +kernel) (by decide) rfl rfl (fun _ => o_move (v := .int _ _) rfl) ?_
        first | refine aqyp (g := 43) 10 rfl (by decide +kernel) (by decide) rfl rfl (fun G => w_indexAddrpN rfl rfl hr rfl) ?_ | refine aqyp (g := 43) 10 rfl (by decide +kernel) (by decide) rfl rfl (fun G => w_indexAddrpN rfl rfl hr1 rfl) ?_ | refine aqyp (g := 43) 10 rfl (by decide +kernel) (by decide) rfl rfl (fun G => w_indexAddrpN rfl rfl hr2 rfl) ?_ | refine aqyp (g := 43) 10 rfl (by decide +kernel) (by decide) rfl rfl (fun G => w_indexAddrN rfl (lk rfl rfl) rfl rfl rfl (by omega)) ?_ | refine aqyp (g := 43) 10 rfl (by decide +kernel) (by decide) rfl rfl (fun G => w_indexAddrp rfl rfl (by omega) hr rfl) ?_ | refine aqyp (g := 43) 10 rfl (by decide +kernel) (by decide) rfl rfl (fun G => w_indexAddrp rfl rfl (by omega) hr1 rfl) ?_ | refine aqyp (g := 43) 10 rfl (by decide +kernel) (by decide) rfl rfl (fun G => w_indexAddrp rfl rfl (by omega) hr2 rfl) ?_ | refine aqyp (g := 43) 10 rfl (by decide +kernel) (by decide) rfl rfl (fun G => w_indexAddr rfl (lk rfl rfl) rfl rfl rfl (by omega) (by omega)) ?_
        first | refine aqyp (g := 43) 11 rfl (by decide +kernel) (by decide) rfl rfl (fun G => w_load1 (v := .int _ _) rfl (lk rfl rfl) rfl rfl rfl) ?_ | refine aqyp (g := 43) 11 rfl (by decide +kernel) (by decide) rfl rfl (fun G => w_load1 (v := .int _ _) rfl (lk rfl rfl) rfl (zadd hr) rfl) ?_ | refine aqyp (g := 43) 11 rfl (by decide +kernel) (by decide) rfl rfl (fun G => w_load1 (v := .int _ _) rfl (lk rfl rfl) rfl (zadd hr1) rfl) ?_ | refine aqyp (g := 43) 11 rfl (by decide +kernel) (by decide) rfl rfl (fun G => w_load1 (v := .int _ _) rfl (lk rfl rfl) rfl (zadd hr2) rfl) ?_ | refine aqyp (g := 43) 11 rfl (by decide +kernel) (by decide) rfl rfl (fun G => o_load1p (v := .int _ _) rfl hr rfl) ?_ | refine aqyp (g := 43) 11 rfl (by decide +kernel) (by decide) rfl rfl (fun G => o_load1p (v := .int _ _) rfl hr1 rfl) ?_ | refine aqyp (g := 43) 11 rfl (by decide +kernel) (by decide) rfl rfl (fun G => o_load1p (v := .int _ _) rfl hr2 rfl) ?_ | refine aqyp (g := 43) 11 rfl (by decide +kernel) (by decide) rfl rfl (fun G => w_load1 (v := .int _ _) rfl (lkF hF) rfl rfl rfl) ?_
        first | refine aqyp (g := 43) 12 rfl (by decide +kernel) (by decide) rfl rfl (fun G => w_fieldAddr rfl (lk rfl rfl) rfl (by decide)) ?_ | refine aqyp (g := 43) 12 rfl (by decide +kernel) (by decide) rfl rfl (fun G => w_fieldAddrp rfl (by decide)) ?_ | refine aqyp (g := 43) 12 rfl (by decide +kernel) (by decide) rfl rfl (fun G => w_fieldAddr rfl (lkF hF) rfl (by decide)) ?_
        first | refine aqyp (g := 43) 13 rfl (by decide +kernel) (by decide) rfl rfl (fun G => w_load1 (v := .int _ _) rfl (lk rfl rfl) rfl rfl rfl) ?_ | refine aqyp (g := 43) 13 rfl (by decide +kernel) (by decide) rfl rfl (fun G => w_load1 (v := .int _ _) rfl (lk rfl rfl) rfl (zadd hr) rfl) ?_ | refine aqyp (g := 43) 13 rfl (by decide +kernel) (by decide) rfl rfl (fun G => w_load1 (v := .int _ _) rfl (lk rfl rfl) rfl (zadd hr1) rfl) ?_ | refine aqyp (g := 43) 13 rfl (by decide +kernel) (by decide) rfl rfl (fun G => w_load1 (v := .int _ _) rfl (lk rfl rfl) rfl (zadd hr2) rfl) ?_ | refine aqyp (g := 43) 13 rfl (by decide +kernel) (by decide) rfl rfl (fun G => o_load1p (v := .int _ _) rfl hr rfl) ?_ | refine aqyp (g := 43) 13 rfl (by decide +kernel) (by decide) rfl rfl (fun G => o_load1p (v := .int _ _) rfl hr1 rfl) ?_ | refine aqyp (g := 43) 13 rfl (by decide +kernel) (by decide) rfl rfl (fun G => o_load1p (v := .int _ _) rfl hr2 rfl) ?_ | refine aqyp (g := 43) 13 rfl (by decide +kernel) (by decide) rfl rfl (fun G => w_load1 (v := .int _ _) rfl (lkF hF) rfl rfl rfl) ?_
        refine aqy0 (g := 43) 14 rfl (by decide +kernel) (by decide) rfl rfl (fun _ => o_ge rfl rfl) ?_
        refine Z5e ?_
        refine Z5f ?_
        refine aq_split (g := 53) rfl (fun hg16 => ?_) (fun hg16 => ?_)
        · refine Z5g ?_
          refine Z5h ?_
          refine Z5i ?_
          refine Z5j ?_
          refine Z5k ?_
          refine Z5l ?_
          refine Z5m ?_
          refine Z5n ?_
          refine Z5o ?_
          refine Z5p ?_
          refine Z5q ?_
          refine Z5r ?_
          refine Z5s ?_
          refine Z5t ?_
          refine Z5u ?_
          refine Z5v ?_
          refine Z5w ?_
          exact Z5x
        · refine aqy0 (g := 53) 17 rfl (by decide +kernel) (by decide) rfl rfl (fun _ => o_move (v := .int _ _) rfl) ?_
          refine aqy0 (g := 53) 18 rfl (by decide +kernel) (by decide) rfl rfl (fun _ => o_gt rfl rfl) ?_
          refine aqy0 (g := 53) 19 rfl (by decide +kernel) (by decide) rfl rfl (fun _ => o_move (v := .bool _) rfl) ?_
          refine aq_split (g := 56) rfl (fun hg19 => ?_) (fun hg19 => ?_)
          · first | refine aqyp (g := 56) 20 rfl (by decide +kernel) (by decide) rfl rfl (fun G => w_fieldAddr rfl (lk rfl rfl) rfl (by decide)) ?_ | refine aqyp (g := 56) 20 rfl (by decide +kernel) (by decide) rfl rfl (fun G => w_fieldAddrp rfl (by decide)) ?_ | refine aqyp (g := 56) 20 rfl (by decide +kernel) (by decide) rfl rfl (fun G => w_fieldAddr rfl (lkF hF) rfl (by decide)) ?_
            first | refine aqyp (g := 56) 21 rfl (by decide +kernel) (by decide) rfl rfl (fun G => w_load1 (v := .sl _ _ _ _ _) rfl (lk rfl rfl) rfl rfl rfl) ?_ | refine aqyp (g := 56) 21 rfl (by decide +kernel) (by decide) rfl rfl (fun G => w_load1 (v := .pl _) rfl (lk rfl rfl) rfl rfl rfl) ?_ | refine aqyp (g := 56) 21 rfl (by decide +kernel) (by decide) rfl rfl (fun G => w_load1 (v := .nsl) rfl (lk rfl rfl) rfl rfl rfl) ?_ | refine aqyp (g := 56) 21 rfl (by decide +kernel) (by decide) rfl rfl (fun G => w_load1 (v := .sl _ _ _ _ _) rfl (lk rfl rfl) rfl (zadd hr) rfl) ?_ | refine aqyp (g := 56) 21 rfl (by decide +kernel) (by decide) rfl rfl (fun G => w_load1 (v := .sl _ _ _ _ _) rfl (lk rfl rfl) rfl (zadd hr1) rfl) ?_ | refine aqyp (g := 56) 21 rfl (by decide +kernel) (by decide) rfl rfl (fun G => w_load1 (v := .sl _ _ _ _ _) rfl (lk rfl rfl) rfl (zadd hr2) rfl) ?_ | refine aqyp (g := 56) 21 rfl (by decide +kernel) (by decide) rfl rfl (fun G => w_load1 (v := .pl _) rfl (lk rfl rfl) rfl (zadd hr) rfl) ?_ | refine aqyp (g := 56) 21 rfl (by decide +kernel) (by decide) rfl rfl (fun G => w_load1 (v := .pl _) rfl (lk rfl rfl) rfl (zadd hr1) rfl) ?_ | refine aqyp (g := 56) 21 rfl (by decide +kernel) (by decide) rfl rfl (fun G => w_load1 (v := .pl _) rfl (lk rfl rfl) rfl (zadd hr2) rfl) ?_ | refine aqyp (g := 56) 21 rfl (by decide +kernel) (by decide) rfl rfl (fun G => w_load1 (v := .nsl) rfl (lk rfl rfl) rfl (zadd hr) rfl) ?_ | refine aqyp (g := 56) 21 rfl (by decide +kernel) (by decide) rfl rfl (fun G => w_load1 (v := .nsl) rfl (lk rfl rfl) rfl (zadd hr1) rfl) ?_ | refine aqyp (g := 56) 21 rfl (by decide +kernel) (by decide) rfl rfl (fun G => w_load1 (v := .nsl) rfl (lk rfl rfl) rfl (zadd hr2) rfl) ?_ | refine aqyp (g := 56) 21 rfl (by decide +kernel) (by decide) rfl rfl (fun G => o_load1p (v := .sl _ _ _ _ _) rfl hr rfl) ?_ | refine aqyp (g := 56) 21 rfl (by decide +kernel) (by decide) rfl rfl (fun G => o_load1p (v := .sl _ _ _ _ _) rfl hr1 rfl) ?_ | refine aqyp (g := 56) 21 rfl (by decide +kernel) (by decide) rfl rfl (fun G => o_load1p (v := .sl _ _ _ _ _) rfl hr2 rfl) ?_ | refine aqyp (g := 56) 21 rfl (by decide +kernel) (by decide) rfl rfl (fun G => o_load1p (v := .pl _) rfl hr rfl) ?_ | refine aqyp (g := 56) 21 rfl (by decide +kernel) (by decide) rfl rfl (fun G => o_load1p (v := .pl _) rfl hr1 rfl) ?_ | refine aqyp (g := 56) 21 rfl (by decide +kernel) (by decide) rfl rfl (fun G => o_load1p (v := .pl _) rfl hr2 rfl) ?_ | refine aqyp (g := 56) 21 rfl (by decide +kernel) (by decide) rfl rfl (fun G => o_load1p (v := .nsl) rfl hr rfl) ?_ | refine aqyp (g := 56) 21 rfl (by decide +kernel) (by decide) rfl rfl (fun G => o_load1p (v := .nsl) rfl hr1 rfl) ?_ | refine aqyp (g := 56) 21 rfl (by decide +kernel) (by decide) rfl rfl (fun G => o_load1p (v := .nsl) rfl hr2 rfl) ?_ | refine aqyp (g := 56) 21 rfl (by decide +kernel) (by decide) rfl rfl (fun G => w_load1 (v := .sl _ _ _ _ _) rfl (lkF hF) rfl rfl rfl) ?_ | refine aqyp (g := 56) 21 rfl (by decide +kernel) (by decide) rfl rfl (fun G => w_load1 (v := .pl _) rfl (lkF hF) rfl rfl rfl) ?_ | refine aqyp (g := 56) 21 rfl (by decide +kernel) (by decide) rfl rfl (fun G => w_load1 (v := .nsl) rfl (lkF hF) rfl rfl rfl) ?_
            refine aqy0 (g := 56) 22 rfl (by decide +kernel) (by decide) rfl rfl (fun _ => o_move (v := .int _ _) rfl) ?_
            first | refine aqyp (g := 56) 23 rfl (by decide +kernel) (by decide) rfl rfl (fun G => w_indexAddrpN rfl rfl hr rfl) ?_ | refine aqyp (g := 56) 23 rfl (by decide +kernel) (by decide) rfl rfl (fun G => w_indexAddrpN rfl rfl hr1 rfl) ?_ | refine aqyp (g := 56) 23 rfl (by decide +kernel) (by decide) rfl rfl (fun G => w_indexAddrpN rfl rfl hr2 rfl) ?_ | refine aqyp (g := 56) 23 rfl (by decide +kernel) (by decide) rfl rfl (fun G => w_indexAddrN rfl (lk rfl rfl) rfl rfl rfl (by omega)) ?_ | refine aqyp (g := 56) 23 rfl (by decide +kernel) (by decide) rfl rfl (fun G => w_indexAddrp rfl rfl (by omega) hr rfl) ?_ | refine aqyp (g := 56) 23 rfl (by decide +kernel) (by decide) rfl rfl (fun G => w_indexAddrp rfl rfl (by omega) hr1 rfl) ?_ | refine aqyp (g := 56) 23 rfl (by decide +kernel) (by decide) rfl rfl (fun G => w_indexAddrp rfl rfl (by omega) hr2 rfl) ?_ | refine aqyp (g := 56) 23 rfl (by decide +kernel) (by decide) rfl rfl (fun G => w_indexAddr rfl (lk rfl rfl) rfl rfl rfl (by omega) (by omega)) ?_
            first | refine aqyp (g := 56) 24 rfl (by decide +kernel) (by decide) rfl rfl (fun G => w_load1 (v := .int _ _) rfl (lk rfl rfl) rfl rfl rfl) ?_ | refine aqyp (g := 56) 24 rfl (by decide +kernel) (by decide) rfl rfl (fun G => w_load1 (v := .int _ _) rfl (lk rfl rfl) rfl (zadd hr) rfl) ?_ | refine aqyp (g := 56) 24 rfl (by decide +kernel) (by decide) rfl rfl (fun G => w_load1 (v := .int _ _) rfl (lk rfl rfl) rfl (zadd hr1) rfl) ?_ | refine aqyp (g := 56) 24 rfl (by decide +kernel) (by decide) rfl rfl (fun G => w_load1 (v := .int _ _) rfl (lk rfl rfl) rfl (zadd hr2) rfl) ?_ | refine aqyp (g := 56) 24 rfl (by decide +kernel) (by decide) rfl rfl (fun G => o_load1p (v := .int _ _) rfl hr rfl) ?_ | refine aqyp (g := 56) 24 rfl (by decide +kernel) (by decide) rfl rfl (fun G => o_load1p (v := .int _ _) rfl hr1 rfl) ?_ | refine aqyp (g := 56) 24 rfl (by decide +kernel) (by decide) rfl rfl (fun G => o_load1p (v := .int _ _) rfl hr2 rfl) ?_ | refine aqyp (g := 56) 24 rfl (by decide +kernel) (by decide) rfl rfl (fun G => w_load1 (v := .int _ _) rfl (lkF hF) rfl rfl rfl) ?_
            first | refine aqyp (g := 56) 25 rfl (by decide +kernel) (by decide) rfl rfl (fun G => w_fieldAddr rfl (lk rfl rfl) rfl (by decide)) ?_ | refine aqyp (g := 56) 25 rfl (by decide +kernel) (by decide) rfl rfl (fun G => w_fieldAddrp rfl (by decide)) ?_ | refine aqyp (g := 56) 25 rfl (by decide +kernel) (by decide) rfl rfl (fun G => w_fieldAddr rfl (lkF hF) rfl (by decide)) ?_
            first | refine aqyp (g := 56) 26 rfl (by decide +kernel) (by decide) rfl rfl (fun G => w_load1 (v := .sl _ _ _ _ _) rfl (lk rfl rfl) rfl rfl rfl) ?_ | refine aqyp (g := 56) 26 rfl (by decide +kernel) (by decide) rfl rfl (fun G => w_load1 (v := .pl _) rfl (lk rfl rfl) rfl rfl rfl) ?_ | refine aqyp (g := 56) 26 rfl (by decide +kernel) (by decide) rfl rfl (fun G => w_load1 (v := .nsl) rfl (lk rfl rfl) rfl rfl rfl) ?_ | refine aqyp (g := 56) 26 rfl (by decide +kernel) (by decide) rfl rfl (fun G => w_load1 (v := .sl _ _ _ _ _) rfl (lk rfl rfl) rfl (zadd hr) rfl) ?_ | refine aqyp (g := 56) 26 rfl (by decide +kernel) (by decide) rfl rfl (fun G => w_load1 (v := .sl _ _ _ _ _) rfl (lk rfl rfl) rfl (zadd hr1) rfl) ?_ | refine aqyp (g := 56) 26 rfl (by decide +kernel) (by decide) rfl rfl (fun G => w_load1 (v := .sl _ _ _ _ _) rfl (lk rfl rfl) rfl (zadd hr2) rfl) ?_ | refine aqyp (g := 56) 26 rfl (by decide +kernel) (by decide) rfl rfl (fun G => w_load1 (v := .pl _) rfl (lk rfl rfl) rfl (zadd hr) rfl) ?_ | refine aqyp (g := 56) 26 rfl (by decide +kernel) (by decide) rfl rfl (fun G => w_load1 (v := .pl _) rfl (lk rfl rfl) rfl (zadd hr1) rfl) ?_ | refine aqyp (g := 56) 26 rfl (by decide +kernel) (by decide) rfl rfl (fun G => w_load1 (v := .pl _) rfl (lk rfl rfl) rfl (zadd hr2) rfl) ?_ | refine aqyp (g := 56) 26 rfl (by decide +kernel) (by decide) rfl rfl (fun G => w_load1 (v := .nsl) rfl (lk rfl rfl) rfl (zadd hr) rfl) ?_ | refine aqyp (g := 56) 26 rfl (by decide +kernel) (by decide) rfl rfl (fun G => w_load1 (v := .nsl) rfl (lk rfl rfl) rfl (zadd hr1) rfl) ?_ | refine aqyp (g := 56) 26 rfl (by decide +kernel) (by decide) rfl rfl (fun G => w_load1 (v := .nsl) rfl (lk rfl rfl) rfl (zadd hr2) rfl) ?_ | refine aqyp (g := 56) 26 rfl (by decide +kernel) (by decide) rfl rfl (fun G => o_load1p (v := .sl _ _ _ _ _) rfl hr rfl) ?_ | refine aqyp (g := 56) 26 rfl (by decide +kernel) (by decide) rfl rfl (fun G => o_load1p (v := .sl _ _ _ _ _) rfl hr1 rfl) ?_ | refine aqyp (g := 56) 26 rfl (by decide +kernel) (by decide) rfl rfl (fun G => o_load1p (v := .sl _ _ _ _ _) rfl hr2 rfl) ?_ | refine aqyp (g := 56) 26 rfl (by decide +kernel) (by decide) rfl rfl (fun G => o_load1p (v := .pl _) rfl hr rfl) ?_ | refine aqyp (g := 56) 26 rfl (by decide +kernel) (by decide) rfl rfl (fun G => o_load1p (v := .pl _) rfl hr1 rfl) ?_ | refine aqyp (g := 56) 26 rfl (by decide +kernel) (by decide) rfl rfl (fun G => o_load1p (v := .pl _) rfl hr2 rfl) ?_ | refine aqyp (g := 56) 26 rfl (by decide +kernel) (by decide) rfl rfl (fun G => o_load1p (v := .nsl) rfl hr rfl) ?_ | refine aqyp (g := 56) 26 rfl (by decide +kernel) (by decide) rfl rfl (fun G => o_load1p (v := .nsl) rfl hr1 rfl) ?_ | refine aqyp (g := 56) 26 rfl (by decide +kernel) (by decide) rfl rfl (fun G => o_load1p (v := .nsl) rfl hr2 rfl) ?_ | refine aqyp (g := 56) 26 rfl (by decide +kernel) (by decide) rfl rfl (fun G => w_load1 (v := .sl _ _ _ _ _) rfl (lkF hF) rfl rfl rfl) ?_ | refine aqyp (g := 56) 26 rfl (by decide +kernel) (by decide) rfl rfl (fun G => w_load1 (v := .pl _) rfl (lkF hF) rfl rfl rfl) ?_ | refine aqyp (g := 56) 26 rfl (by decide +kernel) (by decide) rfl rfl (fun G => w_load1 (v := .nsl) rfl (lkF hF) rfl rfl rfl) ?_
            refine aqy0 (g := 56) 27 rfl (by decide +kernel) (by decide) rfl rfl (fun _ => o_move (v := .int _ _) rfl) ?_
            refine aqy0 (g := 56) 28 rfl (by decide +kernel) (by decide) rfl rfl (fun _ => o_sub (r := (k : Int) - 1) rfl rfl (wrap64_ok (by omega) (by omega))) ?_
            refine aqyp (g := 56) 29 rfl (by decide +kernel) (by decide) rfl rfl (fun G => w_indexAddrp rfl rfl (by simp at hg19; omega) hr1 rfl) ?_
            refine aqyp (g := 56) 30 rfl (by decide +kernel) (by decide) rfl rfl (fun G => o_load1p (v := .int _ _) rfl hr1 rfl) ?_
            refine aqy0 (g := 56) 31 rfl (by decide +kernel) (by decide) rfl rfl (fun _ => o_le rfl rfl) ?_
            refine Z5y ?_
            refine Z5w ?_
            exact Z5x
          · refine aqn0 (g := 56) 20 rfl (by decide +kernel) (by decide) rfl rfl rfl ?_
            refine aqn0 (g := 56) 21 rfl (by decide +kernel) (by decide) rfl rfl rfl ?_
            refine aqn0 (g := 56) 22 rfl (by decide +kernel) (by decide) rfl rfl rfl ?_
            refine aqn0 (g := 56) 23 rfl (by decide +kernel) (by decide) rfl rfl rfl ?_
            refine aqn0 (g := 56) 24 rfl (by decide +kernel) (by decide) rfl rfl rfl ?_
            refine aqn0 (g := 56) 25 rfl (by decide +kernel) (by decide) rfl rfl rfl ?_
            refine aqn0 (g := 56) 26 rfl (by decide +kernel) (by decide) rfl rfl rfl ?_
            refine aqn0 (g := 56) 27 rfl (by decide +kernel) (by decide) rfl rfl rfl ?_
            refine aqn0 (g := 56) 28 rfl (by decide +kernel) (by decide) rfl rfl rfl ?_
            refine aqn0 (g := 56) 29 rfl (by decide +kernel) (by decide) rfl rfl rfl ?_
            refine aqn0 (g := 56) 30 rfl (by decide +kernel) (by decide) rfl rfl rfl ?_
            refine aqn0 (g := 56) 31 rfl (by decide +kernel) (by decide) rfl rfl rfl ?_
            refine Z5y ?_
            refine Z5w ?_
            exact Z5x
    refine Z1 ?_
    refine aw_cond rfl (fun hc => ?_) (fun hc => ?_)
    · refine Zh ?_
      rw [nd_false hlt (by simpa using hc)]
      exact Zd
    · refine Z2f ?_
      refine ⟨k + 1, by omega, ⟨by omega, fun i hi => ?_⟩, (by repeat (first | exact Sub.nil | refine Sub.cons (by first | rfl | (simp [get]; done)) ?_)), .refl _ _⟩
      rcases Nat.lt_or_eq_of_le (Nat.le_of_lt_succ hi) with h | h
      · exact hno i h
      · subst h; simpa using hc
  · have : k = j.needs.length := by simp at hc; omega
    subst this
    rw [nd_true hno, Bool.true_and, jtimes_ref h5]
    clear hjr hno
    refine Z1 ?_
    refine aw_out 90 (.bool (!(decide (0 ≤ j.state) && decide (j.state ≤ 6) && tm j.frm && tm j.to))) ?_ ?_
    · refine Z2w ?_
      refine Zv ?_
      refine ao_split rfl rfl (fun hg3 => ?_) (fun hg3 => ?_)
      · refine Z38 ?_
        refine Z53 ?_
        exact Z54
      · refine Z3c ?_
        refine ao_split rfl rfl (fun hg8 => ?_) (fun hg8 => ?_)
        · refine Z53 ?_
          exact Z54
        · refine Z2z ?_
          refine Z57 ?_
          refine Z1w ?_
          refine Z31 ?_
          refine ao_split rfl rfl (fun hg14 => ?_) (fun hg14 => ?_)
          · refine Z4h ?_
            exact Z54
          · refine Z2z ?_
            refine Z57 ?_
            refine Z26 ?_
            exact Z54
    refine Z1 ?_
    refine aw_cond rfl (fun hc => ?_) (fun hc => ?_)
    · refine Zh ?_
      rw [show (decide (0 ≤ j.state) && decide (j.state ≤ 6) && tm j.frm && tm j.to) = false by simpa only [Bool.not_eq_true'] using hc, Bool.false_and, Bool.false_and]
      exact Zd
    rw [show (decide (0 ≤ j.state) && decide (j.state ≤ 6) && tm j.frm && tm j.to) = true by simpa only [Bool.not_eq_false'] using hc, Bool.true_and]
    have hst : 0 ≤ j.state ∧ j.state ≤ 6 := by simp at hc; omega
    refine Z1 ?_
    refine aw_out 103 (.bool (decide (j.state = 0 ∨ j.state = 1 ∨ j.state = 6))) ?_ ?_
    · refine Z3o ?_
      refine ao_split rfl rfl (fun hg3 => ?_) (fun hg3 => ?_)
      · refine Z3k ?_
        exact Z54
      · refine Z3r ?_
        refine ao_split rfl rfl (fun hg8 => ?_) (fun hg8 => ?_)
        · refine Z3j ?_
          exact Z54
        · refine Z3q ?_
          refine Zn ?_
          exact Z54
    refine Z1 ?_
    refine aw_cond rfl (fun hc => ?_) (fun hc => ?_)
    · have hs : j.state = 0 ∨ j.state = 1 ∨ j.state = 6 := by simpa only [decide_eq_true_eq] using hc
      rw [if_pos hs]
      refine Z3w ?_
      refine Z2n ?_
      refine Zb ?_
      refine aw_cond rfl (fun hc => ?_) (fun hc => ?_)
      · refine Zh ?_
        rw [show decide (j.frm = 0) = false by simpa using hc, Bool.false_and]
        exact Zd
      rw [show decide (j.frm = 0) = true by simpa using hc, Bool.true_and]
      refine Z3w ?_
      refine Z1e ?_
      refine aw_cond rfl (fun hc => ?_) (fun hc => ?_)
      · rw [if_pos (by simpa using hc)]
        refine Z3w ?_
        refine Z12 ?_
        rw [show (j.to == 0) = decide (j.to = 0) from rfl]
        exact Zd
      · rw [if_neg (by simpa using hc)]
        refine Z1 ?_
        refine aw_out 2 (.bool (decide (j.came ≤ j.to) && decide (j.frm ≤ j.to))) ?_ ?_
        · refine Z5z ?_
          refine Z20 ?_
          refine ao_split rfl rfl (fun hg5 => ?_) (fun hg5 => ?_)
          · refine Z2z ?_
            refine Z3s ?_
            exact Z60
          · refine Z4o ?_
            exact Z54
        exact Z1z
    · have hs : ¬ (j.state = 0 ∨ j.state = 1 ∨ j.state = 6) := by simpa only [decide_eq_false_iff_not] using hc
      rw [if_neg hs]
      refine Z1 ?_
      refine aw_out 122 (.bool (!(decide (j.came ≤ j.frm) || (decide (j.state = 5) && decide (j.frm = 0))))) ?_ ?_
      · refine Z5z ?_
        refine Zv ?_
        refine ao_split rfl rfl (fun hg5 => ?_) (fun hg5 => ?_)
        · refine Z61 ?_
          refine ao_split rfl rfl (fun hg9 => ?_) (fun hg9 => ?_)
          · refine Z3q ?_
            refine Z27 ?_
            exact Z54
          · refine Z1x ?_
            refine Z27 ?_
            exact Z54
        · refine Z29 ?_
          refine Z62 ?_
          refine Zs ?_
          refine Zn ?_
          exact Z54
      refine Z1 ?_
      refine aw_cond rfl (fun hc => ?_) (fun hc => ?_)
      · refine Zh ?_
        rw [show (decide (j.came ≤ j.frm) || (decide (j.state = 5) && decide (j.frm = 0))) = false by simpa only [Bool.not_eq_true'] using hc, Bool.false_and]
        exact Zd
      rw [show (decide (j.came ≤ j.frm) || (decide (j.state = 5) && decide (j.frm = 0))) = true by simpa only [Bool.not_eq_false'] using hc, Bool.true_and]
      refine Z3w ?_
      refine Z1e ?_
      refine aw_cond rfl (fun hc => ?_) (fun hc => ?_)
      · rw [if_pos (by simpa using hc)]
        refine Z3w ?_
        refine Z12 ?_
        rw [show (j.to == 0) = decide (j.to = 0) from rfl]
        exact Zd
      · rw [if_neg (by simpa using hc)]
        refine Z1 ?_
        refine aw_out 2 (.bool (decide (j.came ≤ j.to) && decide (j.frm ≤ j.to))) ?_ ?_
        · refine Z5z ?_
          refine Z20 ?_
          refine ao_split rfl rfl (fun hg5 => ?_) (fun hg5 => ?_)
          · refine Z2z ?_
            refine Z3s ?_
            exact Z60
          · refine Z4o ?_
            exact Z54
        exact Z1z

/-! ### states -/
set_option maxHeartbeats 0 in
theorem job_next (s w : Int) (H : Heap) : AC Tryz.prog 193 [.int .i64 s, .int .i64 w] H (Ret (.tup [.int .i64 (nx s w).1, .bool (nx s w).2]) H) := by
  refine AC.body (N := 56) [.tmp 4, .tmp 5] Tryz.func193 rfl rfl rfl (Nat.le_of_ble_eq_true rfl) fun B hB => ?_
  refine Z63 ?_
  refine aw_out 6 (.bool (decide (s = 0 ∧ w = 1))) ?_ ?_
  · refine Z64 ?_
    refine ao_split rfl rfl (fun hg2 => ?_) (fun hg2 => ?_)
    · exact Z66
    · exact Z67
  refine Z1 ?_
  refine aw_cond rfl (fun hc => ?_) (fun hc => ?_)
  · have h : s = 0 ∧ w = 1 := by simpa only [decide_eq_true_eq] using hc
    have e : nx s w = (1, true) := by rw [nx, jnext, if_pos h]
    refine Z63 ?_
    rw [e]
    exact Z68
  have h0 : ¬ (s = 0 ∧ w = 1) := by simpa only [decide_eq_false_iff_not] using hc
  refine Z1 ?_
  refine aw_out 13 (.bool (decide (s = 1 ∧ w = 2))) ?_ ?_
  · refine Z64 ?_
    refine ao_split rfl rfl (fun hg2 => ?_) (fun hg2 => ?_)
    · exact Z66
    · exact Z67
  refine Z1 ?_
  refine aw_cond rfl (fun hc => ?_) (fun hc => ?_)
  · have h : s = 1 ∧ w = 2 := by simpa only [decide_eq_true_eq] using hc
    have e : nx s w = (0, true) := by rw [nx, jnext, if_neg h0, if_pos h]
    refine Z63 ?_
    rw [e]
    exact Z68
  have h1 : ¬ (s = 1 ∧ w = 2) := by simpa only [decide_eq_false_iff_not] using hc
  refine Z1 ?_
  refine aw_out 20 (.bool (decide (s = 0 ∧ w = 3))) ?_ ?_
  · refine Z64 ?_
    refine ao_split rfl rfl (fun hg2 => ?_) (fun hg2 => ?_)
    · exact Z66
    · exact Z67
  refine Z1 ?_
  refine aw_cond rfl (fun hc => ?_) (fun hc => ?_)
  · have h : s = 0 ∧ w = 3 := by simpa only [decide_eq_true_eq] using hc
    have e : nx s w = (2, true) := by rw [nx, jnext, if_neg h0, if_neg h1, if_pos h]
    refine Z63 ?_
    rw [e]
    exact Z68
  have h2 : ¬ (s = 0 ∧ w = 3) := by simpa only [decide_eq_false_iff_not] using hc
  refine Z1 ?_
  refine aw_out 27 (.bool (decide (s = 2 ∧ w = 4))) ?_ ?_
  · refine Z64 ?_
    refine ao_split rfl rfl (fun hg2 => ?_) (fun hg2 => ?_)
    · exact Z66
    · exact Z67
  refine Z1 ?_
  refine aw_cond rfl (fun hc => ?_) (fun hc => ?_)
  · have h : s = 2 ∧ w = 4 := by simpa only [decide_eq_true_eq] using hc
    have e : nx s w = (3, true) := by rw [nx, jnext, if_neg h0, if_neg h1, if_neg h2, if_pos h]
    refine Z63 ?_
    rw [e]
    exact Z68
  have h3 : ¬ (s = 2 ∧ w = 4) := by simpa only [decide_eq_false_iff_not] using hc
  refine Z1 ?_
  refine aw_out 34 (.bool (decide (s = 2 ∧ w = 5))) ?_ ?_
  · refine Z64 ?_
    refine ao_split rfl rfl (fun hg2 => ?_) (fun hg2 => ?_)
    · exact Z66
    · exact Z67
  refine Z1 ?_
  refine aw_cond rfl (fun hc => ?_) (fun hc => ?_)
  · have h : s = 2 ∧ w = 5 := by simpa only [decide_eq_true_eq] using hc
    have e : nx s w = (4, true) := by rw [nx, jnext, if_neg h0, if_neg h1, if_neg h2, if_neg h3, if_pos h]
    refine Z63 ?_
    rw [e]
    exact Z68
  have h4 : ¬ (s = 2 ∧ w = 5) := by simpa only [decide_eq_false_iff_not] using hc
  refine Z1 ?_
  refine aw_out 41 (.bool (decide (s ≤ 2 ∧ w = 6))) ?_ ?_
  · refine Za ?_
    refine Zk ?_
    refine ao_split rfl rfl (fun hg2 => ?_) (fun hg2 => ?_)
    · exact Z66
    · exact Z67
  refine Z1 ?_
  refine aw_cond rfl (fun hc => ?_) (fun hc => ?_)
  · have h : s ≤ 2 ∧ w = 6 := by simpa only [decide_eq_true_eq] using hc
    have e : nx s w = (5, true) := by rw [nx, jnext, if_neg h0, if_neg h1, if_neg h2, if_neg h3, if_neg h4, if_pos h]
    refine Z63 ?_
    rw [e]
    exact Z68
  have h5 : ¬ (s ≤ 2 ∧ w = 6) := by simpa only [decide_eq_false_iff_not] using hc
  refine Z1 ?_
  refine aw_out 48 (.bool (decide (s < 2 ∧ w = 7))) ?_ ?_
  · refine Zw ?_
    refine ao_split rfl rfl (fun hg2 => ?_) (fun hg2 => ?_)
    · exact Z66
    · exact Z67
  refine Z1 ?_
  refine aw_cond rfl (fun hc => ?_) (fun hc => ?_)
  · have h : s < 2 ∧ w = 7 := by simpa only [decide_eq_true_eq] using hc
    have e : nx s w = (6, true) := by rw [nx, jnext, if_neg h0, if_neg h1, if_neg h2, if_neg h3, if_neg h4, if_neg h5, if_pos h]
    refine Z63 ?_
    rw [e]
    exact Z68
  have h6 : ¬ (s < 2 ∧ w = 7) := by simpa only [decide_eq_false_iff_not] using hc
  have e : nx s w = (s, false) := by rw [nx, jnext, if_neg h0, if_neg h1, if_neg h2, if_neg h3, if_neg h4, if_neg h5, if_neg h6]
  refine Z10 ?_
  refine Z3 ?_
  refine Zg ?_
  rw [e]
  exact Z68
def jtab : List Int := [1, -1, 2, -1, -1, 5, 6, -1, 0, -1, -1, -1, 5, 6, -1, -1, -1, 3, 4, 5, -1, -1, -1, -1, -1, -1, -1, -1, -1, -1, -1, -1, -1, -1, -1, -1, -1, -1, -1, -1, -1, -1, -1, -1, -1, -1, -1, -1, -1]
theorem jtab_row : ∀ a : Nat, a < 7 → ∀ b : Nat, b < 7 → jtab[a * 7 + b]? = some ((jnext (a : Int) ((b : Int) + 1)).getD (-1)) := by decide +kernel
abbrev eTab : List AV := jtab.map fun i => .int .i64 i
set_option maxHeartbeats 0 in
theorem ref11_Next (s w : Int) (hs : 0 ≤ s ∧ s ≤ 6) (hw : 1 ≤ w ∧ w ≤ 7) (H : Heap) : AC Tryz.prog 186 [.int .i64 s, .int .i64 w] H (Ret (.int .i64 ((jnext s w).getD (-1))) H) := by
  obtain ⟨a, rfl⟩ : ∃ a : Nat, s = a := ⟨s.toNat, by omega⟩
  obtain ⟨b, rfl⟩ : ∃ b : Nat, w = (b : Int) + 1 := ⟨(w - 1).toNat, by omega⟩
  have hrow := jtab_row a (by omega) b (by omega)
  have hget : ((eTab.drop (((a : Nat) : Int).toNat * 7)).take 7)[((b : Nat) : Int).toNat * 1]? = some (.int .i64 ((jnext (a : Int) ((b : Int) + 1)).getD (-1))) := by
    show ((eTab.drop (a * 7)).take 7)[b * 1]? = _
    rw [Nat.mul_one, List.getElem?_take, if_pos (by omega), List.getElem?_drop, List.getElem?_map, hrow]
    rfl
  refine AC.body (N := 18) [.tmp 4] Tryz.func186 rfl rfl rfl (Nat.le_of_ble_eq_true rfl) fun B hB => ?_
  refine Z8 ?_
  refine Z69 ?_
  refine Z69 ?_
  refine Z69 ?_
  refine Z69 ?_
  refine Z69 ?_
  refine Z69 ?_
  refine Z69 ?_
  refine ao1 (by decide) (V1.up (o_buildArr (cs := eTab) rfl)) ?_
  refine Za ?_
  refine ao1 (by decide) (o_indexN (cs := eTab) (sz := 7) rfl rfl (by omega) (by omega) rfl (by simp [jtab]; omega)) ?_
  refine Za ?_
  refine ao1 (by decide) (o_sub (r := (b : Int)) rfl rfl (by rw [show (b : Int) + 1 - 1 = (b : Int) by omega]; exact wrap64_ok (by omega) (by omega))) ?_
  refine ao1 (by decide) (o_index1 (sz := 1) (v := .int .i64 _) rfl rfl (by omega) (by omega) hget) ?_
  exact Ze
theorem job_Over (s : Int) (H : Heap) : AC Tryz.prog 31 [.int .i64 s] H (Ret (.bool (jover s)) H) := by
  refine AC.body (N := 9) [.tmp 2] Tryz.func31 rfl rfl rfl (Nat.le_of_ble_eq_true rfl) fun B hB => ?_
  refine Zh ?_
  refine aw_out 2 (.bool (jover s)) ?_ ?_
  · refine Za ?_
    refine Z20 ?_
    refine ao_split rfl rfl (fun hg2 => ?_) (fun hg2 => ?_)
    · refine Zy ?_
      refine Zo ?_
      exact Z6a
    · refine Zt ?_
      exact Z6a
  exact Z1z
abbrev jnames : List ByteArray := [⟨#[119, 97, 105, 116, 115]⟩, ⟨#[104, 111, 108, 100, 115]⟩, ⟨#[114, 117, 110, 115]⟩, ⟨#[100, 111, 110, 101]⟩, ⟨#[101, 110, 100, 101, 100]⟩, ⟨#[99, 97, 110, 99, 101, 108, 108, 101, 100]⟩, ⟨#[114, 101, 102, 117, 115, 101, 100]⟩]
abbrev eS (s : ByteArray) : List AV := [.str s]
def jname (s : Int) : ByteArray := if 0 ≤ s ∧ s ≤ 6 then (jnames[s.toNat]?).getD ⟨#[]⟩ else ⟨#[]⟩
end Go.Av

namespace Go.Av
open Go.Proofs
set_option maxRecDepth 10000
set_option linter.unusedSimpArgs false
set_option linter.unusedVariables false


set_option maxHeartbeats 0 in
theorem job_Do (j : Job) (w now : Int) (hn : j.needs.length ≤ 1000000) (H : Heap) : AC Tryz.prog 170 [.agg (eJob j), .int .i64 w, .int .i64 now] H (Ret (.tup [.agg (eJob (jdo j w now).1), .int .i64 (jdo j w now).2]) H) := by
  refine AC.body (N := 61) [.cell 6 63, .tmp 7] Tryz.func170 rfl rfl rfl (Nat.le_of_ble_eq_true rfl) fun B hB => ?_
  refine Z49 ?_
  refine Z6b ?_
  refine Z1a ?_
  refine Z4a ?_
  refine Z6c ?_
  refine Z2u ?_
  first | refine ao2 (by rintro _ ⟨⟩) (w_storeP (sz := 1) (v := .sl _ _ _ _ _) (r' := [_, _, _, _, _, _, _, _, _, _, _, _, _]) rfl rfl rfl rfl rfl rfl rfl rfl (Nat.le_of_ble_eq_true rfl) rfl) ?_ | refine ao2 (by rintro _ ⟨⟩) (w_storeP (sz := 1) (v := .pl _) (r' := [_, _, _, _, _, _, _, _, _, _, _, _, _]) rfl rfl rfl rfl rfl rfl rfl rfl (Nat.le_of_ble_eq_true rfl) rfl) ?_ | refine ao2 (by rintro _ ⟨⟩) (w_storeP (sz := 1) (v := .nsl) (r' := [_, _, _, _, _, _, _, _, _, _, _, _, _]) rfl rfl rfl rfl rfl rfl rfl rfl (Nat.le_of_ble_eq_true rfl) rfl) ?_ | refine ao2 (by rintro _ ⟨⟩) (w_storeFP (sz := 1) (v := .sl _ _ _ _ _) (r' := [_, _, _, _, _, _, _, _, _, _, _, _, _]) rfl hF rfl rfl rfl rfl rfl (Nat.le_of_ble_eq_true rfl) rfl) ?_ | refine ao2 (by rintro _ ⟨⟩) (w_storeFP (sz := 1) (v := .sl _ _ _ _ _) (r' := [_, _, _, _, _, _, _, _, _, _, _, _, _]) rfl hF1 rfl rfl rfl rfl rfl (Nat.le_of_ble_eq_true rfl) rfl) ?_ | refine ao2 (by rintro _ ⟨⟩) (w_storeFP (sz := 1) (v := .pl _) (r' := [_, _, _, _, _, _, _, _, _, _, _, _, _]) rfl hF rfl rfl rfl rfl rfl (Nat.le_of_ble_eq_true rfl) rfl) ?_ | refine ao2 (by rintro _ ⟨⟩) (w_storeFP (sz := 1) (v := .pl _) (r' := [_, _, _, _, _, _, _, _, _, _, _, _, _]) rfl hF1 rfl rfl rfl rfl rfl (Nat.le_of_ble_eq_true rfl) rfl) ?_ | refine ao2 (by rintro _ ⟨⟩) (w_storeFP (sz := 1) (v := .nsl) (r' := [_, _, _, _, _, _, _, _, _, _, _, _, _]) rfl hF rfl rfl rfl rfl rfl (Nat.le_of_ble_eq_true rfl) rfl) ?_ | refine ao2 (by rintro _ ⟨⟩) (w_storeFP (sz := 1) (v := .nsl) (r' := [_, _, _, _, _, _, _, _, _, _, _, _, _]) rfl hF1 rfl rfl rfl rfl rfl (Nat.le_of_ble_eq_true rfl) rfl) ?_
  refine Zb ?_
  refine aw_out 38 (.bool (jbad j w now)) ?_ ?_
  · refine Z6d ?_
    refine ao_ret (job_Right _ _) rfl (by decide) ?_
    refine Z22 ?_
    refine ao_split rfl rfl (fun hg3 => ?_) (fun hg3 => ?_)
    · refine Z6e ?_
      refine Z6e ?_
      refine Z38 ?_
      refine Z4g ?_
      refine Z3j ?_
      exact Z6f
    · refine Zl ?_
      refine Z3l ?_
      refine ao_split rfl rfl (fun hg7 => ?_) (fun hg7 => ?_)
      · refine Z6e ?_
        refine Z38 ?_
        refine Z4g ?_
        refine Z3j ?_
        exact Z6f
      · refine Zl ?_
        refine Z3a ?_
        refine Z31 ?_
        refine ao_split rfl rfl (fun hg11 => ?_) (fun hg11 => ?_)
        · refine Z38 ?_
          refine Z4g ?_
          refine Z3j ?_
          exact Z6f
        · refine Zl ?_
          refine Z4y ?_
          refine Z1w ?_
          refine Z31 ?_
          refine ao_split rfl rfl (fun hg16 => ?_) (fun hg16 => ?_)
          · refine Z4g ?_
            refine Z3j ?_
            exact Z6f
          · refine Zl ?_
            refine Z2z ?_
            refine Z2z ?_
            refine Z4p ?_
            refine Zm ?_
            refine Zn ?_
            exact Z6f
  refine Z1 ?_
  refine aw_cond rfl (fun hc => ?_) (fun hc => ?_)
  · refine Z6j ?_
    rw [show jdo j w now = (j, 1) by rw [jdo, if_pos hc]]
    exact Z6k
  have hb : jbad j w now = false := hc
  have c4 := fun H => job_next j.state w H
  cases hnx : jnext j.state w with
  | none =>
    rw [show nx j.state w = (j.state, false) by rw [nx, hnx]] at c4
    refine Z3w ?_
    refine Za ?_
    refine Z6l ?_
    refine Z6m ?_
    refine Z6p ?_
    refine Z2p ?_
    refine Z3u ?_
    refine aw_cond rfl (fun hc => ?_) (fun hc => ?_)
    · refine Z6j ?_
      rw [show jdo j w now = (j, 8) by rw [jdo, if_neg (by rw [hb]; simp), hnx]]
      exact Z6k
    · simp at hc
  | some s =>
    rw [show nx j.state w = (s, true) by rw [nx, hnx]] at c4
    rw [show jdo j w now = (jstep j s now, 0) by rw [jdo, if_neg (by rw [hb]; simp), hnx]]
    refine Z3w ?_
    refine Za ?_
    refine Z6l ?_
    refine Z6m ?_
    refine Z6p ?_
    refine Z2p ?_
    refine Z3u ?_
    refine aw_cond rfl (fun hc => ?_) (fun hc => ?_)
    · simp at hc
    refine Z6r ?_
    refine Z14 ?_
    refine Z16 ?_
    refine aw_cond rfl (fun hc => ?_) (fun hc => ?_)
    · have hs : s = 2 := by simpa using hc
      rw [show jstep j s now = ⟨j.id, j.spec, j.needs, s, j.came, now, j.to⟩ by rw [jstep, if_pos hs, if_neg (by rw [hs]; decide)]]
      refine Z6r ?_
      refine Z14 ?_
      refine Z6s ?_
      refine Zb ?_
      refine aw_cond rfl (fun hc => ?_) (fun hc => ?_)
      · rw [hs] at hc; exact absurd hc (by decide)
      refine Z6j ?_
      exact Z6k
    · have hs : ¬ s = 2 := by simpa using hc
      refine Z10 ?_
      refine Z6s ?_
      refine Zb ?_
      refine aw_cond rfl (fun hc => ?_) (fun hc => ?_)
      · rw [show jstep j s now = ⟨j.id, j.spec, j.needs, s, j.came, j.frm, now⟩ by rw [jstep, if_neg hs, if_pos hc]]
        refine Z6r ?_
        refine Z7 ?_
        refine Z6i ?_
        exact Z6k
      · rw [show jstep j s now = ⟨j.id, j.spec, j.needs, s, j.came, j.frm, j.to⟩ by rw [jstep, if_neg hs, if_neg (by rw [hc]; simp)]]
        refine Z6j ?_
        exact Z6k
set_option maxHeartbeats 0 in
theorem ref11_Do (j : Job) (w now : Int) (ht : j.spec.tag.size ≤ 9223372036854775807) (H : Heap) : AC Tryz.prog 154 [.agg (eJob j), .int .i64 w, .int .i64 now] H (Ret (.tup [.agg (eJob (jdo j w now).1), .int .i64 (jdo j w now).2]) H) := by
  refine AC.body (N := 56) [.cell 6 63, .tmp 7] Tryz.func154 rfl rfl rfl (Nat.le_of_ble_eq_true rfl) fun B hB => ?_
  refine Z49 ?_
  refine Z6b ?_
  refine Zc ?_
  refine aw_out 36 (.bool (jbad j w now)) ?_ ?_
  · refine Z6d ?_
    refine ao_ret (ref11_Right _ _ (by assumption)) rfl (by decide) ?_
    refine Z22 ?_
    refine ao_split rfl rfl (fun hg3 => ?_) (fun hg3 => ?_)
    · refine Z6e ?_
      refine Z6e ?_
      refine Z38 ?_
      refine Z53 ?_
      exact Z6f
    · refine Zl ?_
      refine Z3l ?_
      refine ao_split rfl rfl (fun hg7 => ?_) (fun hg7 => ?_)
      · refine Z6e ?_
        refine Z38 ?_
        refine Z53 ?_
        exact Z6f
      · refine Zl ?_
        refine Z3a ?_
        refine Z31 ?_
        refine ao_split rfl rfl (fun hg11 => ?_) (fun hg11 => ?_)
        · refine Z38 ?_
          refine Z53 ?_
          exact Z6f
        · refine Zl ?_
          refine Z57 ?_
          refine Z1w ?_
          refine Z31 ?_
          refine ao_split rfl rfl (fun hg16 => ?_) (fun hg16 => ?_)
          · refine Z53 ?_
            exact Z6f
          · refine Zl ?_
            refine Z3m ?_
            refine ao_split rfl rfl (fun hg22 => ?_) (fun hg22 => ?_)
            · refine Z4h ?_
              exact Z6f
            · refine Zl ?_
              refine Z2z ?_
              refine Zm ?_
              refine Zn ?_
              exact Z6f
  refine Z1 ?_
  refine aw_cond rfl (fun hc => ?_) (fun hc => ?_)
  · refine Z6j ?_
    rw [show jdo j w now = (j, 1) by rw [jdo, if_pos hc]]
    exact Z6k
  have hb : jbad j w now = false := hc
  have hb2 := hb
  simp only [jbad, Bool.or_eq_false_iff, Bool.not_eq_false', decide_eq_false_iff_not] at hb2
  obtain ⟨⟨⟨⟨hjr, hw1⟩, hw2⟩, hnow⟩, hmx⟩ := hb2
  have hst := jright_state hjr
  have c4 := fun H => ref11_Next j.state w hst (by omega) H
  cases hnx : jnext j.state w with
  | none =>
    rw [hnx] at c4
    refine Z3w ?_
    refine Za ?_
    refine Z6l ?_
    refine Z15 ?_
    refine Z1e ?_
    refine aw_cond rfl (fun hc => ?_) (fun hc => ?_)
    · refine Z6j ?_
      rw [show jdo j w now = (j, 8) by rw [jdo, if_neg (by rw [hb]; simp), hnx]]
      exact Z6k
    · simp at hc
  | some s =>
    have hsi := jnext_in hst.1 hnx
    rw [hnx] at c4
    rw [show jdo j w now = (jstep j s now, 0) by rw [jdo, if_neg (by rw [hb]; simp), hnx]]
    refine Z3w ?_
    refine Za ?_
    refine Z6l ?_
    refine Z15 ?_
    refine Z1e ?_
    refine aw_cond rfl (fun hc => ?_) (fun hc => ?_)
    · simp at hc; omega
    refine Z6r ?_
    refine Z14 ?_
    refine Z16 ?_
    refine aw_cond rfl (fun hc => ?_) (fun hc => ?_)
    · have hs : s = 2 := by simpa using hc
      rw [show jstep j s now = ⟨j.id, j.spec, j.needs, s, j.came, now, j.to⟩ by rw [jstep, if_pos hs, if_neg (by rw [hs]; decide)]]
      refine Z6r ?_
      refine Z14 ?_
      refine Z2k ?_
      refine aw_cond rfl (fun hc => ?_) (fun hc => ?_)
      · simp at hc; omega
      refine Z6j ?_
      exact Z6k
    · have hs : ¬ s = 2 := by simpa using hc
      refine Z10 ?_
      refine Z2k ?_
      refine aw_cond rfl (fun hc => ?_) (fun hc => ?_)
      · have hv : jover s = true := by simp at hc; simp [jover]; omega
        rw [show jstep j s now = ⟨j.id, j.spec, j.needs, s, j.came, j.frm, now⟩ by rw [jstep, if_neg hs, if_pos hv]]
        refine Z6r ?_
        refine Z7 ?_
        refine Z6i ?_
        exact Z6k
      · have hv : jover s = false := by simp at hc; simp [jover]; omega
        rw [show jstep j s now = ⟨j.id, j.spec, j.needs, s, j.came, j.frm, j.to⟩ by rw [jstep, if_neg hs, if_neg (by rw [hv]; simp)]]
        refine Z6j ?_
        exact Z6k

theorem eq_step {α : Type} {a b : List α} {k : Nat} {x : α} (hx : a[k]? = some x) (hy : b[k]? = some x) (h : a.take k = b.take k) : a.take (k + 1) = b.take (k + 1) := by
  rw [take_snoc_get hx, take_snoc_get hy, h]
theorem eq_done {α : Type} {a b : List α} (hn : a.length = b.length) (h : a.take a.length = b.take a.length) : a = b := by
  rw [List.take_length, hn, List.take_length] at h; exact h
theorem ne_at {α : Type} {a b : List α} {k : Nat} {x y : α} (hx : a[k]? = some x) (hy : b[k]? = some y) (h : x ≠ y) : a ≠ b := by
  rintro rfl; rw [hx] at hy; exact h (Option.some.inj hy)
theorem ref01_Same (a b : List Int) (H : Heap) (ha : a.length ≤ 1000000000) : AC Tryz.prog 23 [.pl (a.map eI), .pl (b.map eI)] H (Ret (.bool (decide (a = b))) H) := by
  refine AC.body (N := 26) [.tmp 4] Tryz.func23 rfl rfl rfl (Nat.le_of_ble_eq_true rfl) fun B hB => ?_
  refine Z6u ?_
  refine Z6t ?_
  refine Z2n ?_
  refine Zb ?_
  refine aw_cond rfl (fun hc => ?_) (fun hc => ?_)
  · have hn : a.length ≠ b.length := by simp at hc; omega
    rw [show decide (a = b) = false by simp; intro e; exact hn (congrArg List.length e)]
    exact Z4l
  have hn : a.length = b.length := by simp at hc; omega
  refine Z58 ?_
  refine aw_loop (G := Nat) (fun k => k ≤ a.length ∧ a.take k = b.take k) (fun k => [(0, .pl (a.map eI)), (1, .pl (b.map eI)), (5, .int .i64 (k : Int))]) (fun _ => H ++ []) (fun k => a.length - k) 0 ⟨Nat.zero_le _, by simp⟩ (by repeat (first | exact Sub.nil | refine Sub.cons (by first | rfl | (simp [get]; done)) ?_)) (Fit.refl _ _) ?_
  rintro k ⟨hk, he⟩
  refine Z6w ?_
  refine aw_cond rfl (fun hc => ?_) (fun hc => ?_)
  · have hlt : k < a.length := by simpa using hc
    obtain ⟨x, hx, _⟩ := get_in hlt
    obtain ⟨y, hy, _⟩ := get_in (l := b) (k := k) (by omega)
    have hr := map_get eI hx
    have hr1 := map_get eI hy
    refine Z1 ?_
    refine Z6z ?_
    refine Z70 ?_
    refine Z71 ?_
    refine Z1m ?_
    refine aqp 6 rfl (by decide +kernel) (by decide) (fun G => w_indexAddrpN rfl rfl hr1 rfl) ?_
    refine aqp 7 rfl (by decide +kernel) (by decide) (fun G => o_load1p (v := .int _ _) rfl hr1 rfl) ?_
    refine aq0 8 rfl (by decide +kernel) (by decide) (fun _ => o_ne rfl rfl) ?_
    refine Z1l ?_
    refine aw_cond rfl (fun hc => ?_) (fun hc => ?_)
    · rw [show decide (a = b) = false by simp; exact ne_at hx hy (by simpa using hc)]
      exact Z4l
    · have hxy : x = y := by simpa using hc
      subst hxy
      refine Z2f ?_
      exact ⟨k + 1, by omega, ⟨by omega, eq_step hx hy he⟩, (by repeat (first | exact Sub.nil | refine Sub.cons (by first | rfl | (simp [get]; done)) ?_)), .refl _ _⟩
  · have : k = a.length := by simp at hc; omega
    subst this
    rw [show decide (a = b) = true by simp; exact eq_done hn he]
    exact Z4l
set_option maxHeartbeats 0 in
theorem ref11_Same (a b : Job) (H : Heap) (ha : a.needs.length ≤ 1000000) : AC Tryz.prog 106 [.agg (eJob a), .agg (eJob b)] H (Ret (.bool (decide (a = b))) H) := by
  have he : decide (a = b) = (a.id == b.id && decide (a.spec = b.spec) && a.state == b.state && a.came == b.came && a.frm == b.frm && a.to == b.to && decide (a.needs = b.needs)) := by
    cases a; cases b; simp [Bool.beq_eq_decide_eq]; grind
  rw [he]
  refine AC.body (N := 52) [.tmp 4] Tryz.func106 rfl rfl rfl (Nat.le_of_ble_eq_true rfl) fun B hB => ?_
  refine Z49 ?_
  refine Z48 ?_
  refine Zg ?_
  refine aw_out 4 (.bool (a.id == b.id && decide (a.spec = b.spec) && a.state == b.state && a.came == b.came && a.frm == b.frm && a.to == b.to && decide (a.needs = b.needs))) ?_ ?_
  · refine Z5z ?_
    refine Z3n ?_
    refine ao_split rfl rfl (fun hg5 => ?_) (fun hg5 => ?_)
    · refine Z2x ?_
      refine Z4w ?_
      refine Z2x ?_
      refine Z4w ?_
      refine ao_y1 rfl rfl (by decide) (o_eqAgg (us := uSpec a.spec) (vs := uSpec b.spec) rfl rfl rfl rfl (by kernel_rfl) (eqSpec_run _ _)) ?_
      refine Z31 ?_
      refine ao_split rfl rfl (fun hg12 => ?_) (fun hg12 => ?_)
      · refine Z2z ?_
        refine Z3r ?_
        refine ao_split rfl rfl (fun hg19 => ?_) (fun hg19 => ?_)
        · refine Z2z ?_
          refine Z3r ?_
          refine ao_split rfl rfl (fun hg26 => ?_) (fun hg26 => ?_)
          · refine Z2z ?_
            refine Z3r ?_
            refine ao_split rfl rfl (fun hg33 => ?_) (fun hg33 => ?_)
            · refine Z2z ?_
              refine Z3r ?_
              refine ao_split rfl rfl (fun hg40 => ?_) (fun hg40 => ?_)
              · refine Z72 ?_
                refine ao_y rfl rfl (by decide) (V2.call (ref01_Same a.needs b.needs _ (by omega)) rfl) ?_
                refine Zo ?_
                exact Z73
              · refine Z4o ?_
                exact Z73
            · refine Zs ?_
              refine Z74 ?_
              exact Z73
          · refine Zs ?_
            refine Z50 ?_
            refine Z74 ?_
            exact Z73
        · refine Zs ?_
          refine Z50 ?_
          refine Z50 ?_
          refine Z74 ?_
          exact Z73
      · refine Zs ?_
        refine Z50 ?_
        refine Z50 ?_
        refine Z50 ?_
        refine Z74 ?_
        exact Z73
    · refine Zs ?_
      refine Z50 ?_
      refine Z50 ?_
      refine Z50 ?_
      refine Z50 ?_
      refine Z74 ?_
      exact Z73
  exact Z1z
end Go.Av

/-
  A PACKAGE's TABLE THAT NOBODY WRITES: what it holds is known of every world that the call comes to ('know', kept in the environment under a number that no slot has).
-/
namespace Go.Av
structure Know where
  g : Nat
  tab : List Value
def Kn (K : Know) (S : List Slot) (w : World) : Prop := ¬ own S K.g ∧ K.g < w.heap.size ∧ (∀ j v, K.tab[j]? = some v → w.cell? ⟨K.g, j, none⟩ = some v) ∧ ∃ ty fz, w.heap[K.g]? = some (Obj.cells K.tab.toArray ty fz)
abbrev Know.av (K : Know) : AV := .know K.g K.tab
theorem VR.kn {S : List Slot} {w : World} {K : Know} {u : Value} (h : VR (own S) w S K.av u) : Kn K S w := by
  cases h with
  | know ho hg h hx => exact ⟨ho, hg, h, hx⟩
theorem Kn.vr {S : List Slot} {w : World} {K : Know} {u : Value} (h : Kn K S w) : VR (own S) w S K.av u := .know h.1 h.2.1 h.2.2.1 h.2.2.2

/-- A contract in a world whose table is known. -/
def ACT (P : Program) (K : Know) (f : FuncId) (args : List AV) (H : Heap) (R : AOut → Heap → Prop) : Prop :=
  ∀ S w cargs, Kn K S w → HRel H S w → VRs (own S) w S args cargs →
    Calls P f cargs w fun e w' => ∃ o H' S', R o H' ∧ OutR (own S') w' S' o e ∧ HRel H' S' w' ∧ Ext S w S' w'
theorem AC.toT {P : Program} {K : Know} {f : FuncId} {args : List AV} {H : Heap} {R : AOut → Heap → Prop} (h : AC P f args H R) : ACT P K f args H R := fun S w cargs _ => h S w cargs

section
variable {P : Program} {N : Nat} {B : Base} {env : Env} {H H0 L : Heap} {ty : TypeId}
theorem V2.callT {K : Know} {f : Nat} {xs : Array Operand} {ts : Array TypeId} {v : AV} {vs : List AV} {M : Heap} [FnI P f] (hac : ACT P K f vs H (Ret v M)) (hvs : xs.toList.map (aev env) = vs) (hk : get env KT = K.av) :
    V2 P N (.call { callee := .value (.func f), args := xs, argTypes := ts }) ty env H v M := by
  subst hvs
  intro dst pos after guard S a w hc next Q hn hp
  have hkn := hc.env KT
  rw [hk] at hkn
  have hrun : (execOp a.eval ⟨dst, .call { callee := .value (.func f), args := xs, argTypes := ts }, ty, pos, after, guard⟩).run P w = .ok (.enter f (xs.map a.eval)) w := by
    simp [execOp, resolve, Act.eval, Deferred.ofValue, invoke, run_callFunc (P := P) (f := f)]
  unfold Oper.wp
  rw [hrun]
  refine (hac S w (xs.map a.eval) hkn.kn hc.heap (evs_ok hc xs)).mono ?_
  rintro e w' ⟨out, H', S', ⟨rfl, rfl⟩, hout, hh, hx⟩
  cases hout with
  | ret hv => exact hn _ _ _ S' w' ⟨rfl, rfl⟩ hh hx hv
theorem ACT.up {K : Know} {f : FuncId} {vs us : List AV} {R : AOut → Heap → Prop} (h : ACT P K f us H R) (hvs : vs.map AV.up = us) : ACT P K f vs H R := fun S w cargs hk hH hv => h S w cargs hk hH (hvs ▸ hv.up)
theorem V2.callTu {K : Know} {f : Nat} {xs : Array Operand} {ts : Array TypeId} {v : AV} {us : List AV} {M : Heap} [FnI P f] (hac : ACT P K f us H (Ret v M)) (hvs : (xs.toList.map (aev env)).map AV.up = us) (hk : get env KT = K.av) :
    V2 P N (.call { callee := .value (.func f), args := xs, argTypes := ts }) ty env H v M := V2.callT (hac.up hvs) rfl hk
theorem ACT.body {K : Know} {f : FuncId} {N : Nat} {fn : Func} {c : Code} {args : List AV} {R : AOut → Heap → Prop} (rs : List ResultVar) (hf : P.funcs[f]? = some fn) (hb : fn.body = some c) (hr : fn.results = rs.toArray)
    (hN : fn.ntmps = N) (hn : args.length ≤ N) (h : ∀ B, Begun B H args → AWp P N B c (Ends P B rs R) ((KT, K.av) :: params 0 args) (H ++ [])) : ACT P K f args H R := by
  subst hN
  simp only [List.append_nil] at h
  intro S w cargs hkn hH hv
  refine calls_of_wp hf hb ?_
  have hc : CR fn.ntmps ((KT, K.av) :: params 0 args) H S { tmps := cargs ++ Array.replicate (fn.ntmps - cargs.size) undef, defers := [] } w := by
    refine ⟨hH, fun t => ?_, ?_, rfl⟩
    · by_cases hKT : KT = t
      · subst hKT; rw [get_put_same]; exact hkn.vr
      rw [get_put_other _ _ hKT, get_params, if_pos (Nat.zero_le _), Nat.sub_zero]
      by_cases ht : t < args.length
      · have h1 : args.getD t .junk = args[t] := by simp [List.getD, ht]
        have ht' : t < cargs.size := by rw [← hv.1]; exact ht
        have h2 : (cargs ++ Array.replicate (fn.ntmps - cargs.size) undef).getD t undef = cargs[t] := by
          simp [Array.getElem?_append_left ht', ht']
        rw [h1, h2]
        exact hv.2 t _ _ (List.getElem?_eq_getElem ht) (Array.getElem?_eq_getElem ht')
      · have h1 : args.getD t .junk = .junk := by simp [List.getD, List.getElem?_eq_none (Nat.le_of_not_lt ht)]
        rw [h1]; exact .junk
    · have := hv.1
      simp
      omega
  have hbg : Begun ⟨S, w⟩ H args := by
    refine ⟨hH.len.symm, hH.bel, ?_⟩
    rw [AV.bels_iff]
    intro v hv'
    obtain ⟨j, hj⟩ := List.mem_iff_getElem?.1 hv'
    rw [hH.len]
    exact (hv.2 j v _ hj (Array.getElem?_eq_getElem (by rw [← hv.1]; exact (List.getElem?_eq_some_iff.1 hj).1))).bel
  refine wp_mono (h ⟨S, w⟩ hbg S _ w hc (Ext.refl S w)) ?_
  intro e a' w' ⟨x, env', H', S', q, r, c, k⟩
  cases r with
  | nrm =>
    obtain ⟨vs, M, h1, h2, h3⟩ := q
    obtain ⟨u, k1, k2⟩ := results_ok c hr h1
    obtain ⟨S2, m1, m2, m3⟩ := h2.ok c.heap k2 k
    exact ⟨c.defers, u, k1, _, M, S2, h3, .ret m2, m1, m3⟩
  | ret =>
    obtain ⟨vs, M, h1, h2, h3⟩ := q
    obtain ⟨u, k1, k2⟩ := results_ok c hr h1
    obtain ⟨S2, m1, m2, m3⟩ := h2.ok c.heap k2 k
    exact ⟨c.defers, u, k1, _, M, S2, h3, .ret m2, m1, m3⟩
  | brk => exact q.elim
  | pan hv =>
    obtain ⟨M, h2, h3⟩ := q
    obtain ⟨S2, m1, m2, m3⟩ := h2.ok c.heap hv k
    exact ⟨c.defers, _, M, S2, h3, .pan m2, m1, m3⟩

/-- A place in a package's array, and what lies there. -/
theorem o_indexGlob {t e : TypeId} {x y : Operand} {g m n : Nat} {k : IntKind} {sz : Nat} {agg : Bool} [ArI P t m e] [TyI P e agg sz] (hx : aev env x = .raw (.pointer (some ⟨g, 0, none⟩))) (hy : aev env y = .int k (n : Int)) (h1 : n < m) :
    V1 P N (.indexAddr t x y) ty env H (.raw (.pointer (some ⟨g, n * sz, none⟩))) := by
  intro S a w hc
  have hv := hc.ev x
  rw [hx] at hv
  generalize he : a.eval x = u at hv
  cases hv
  refine ⟨.pointer (some ⟨g, n * sz, none⟩), fun _ _ _ _ => ?_, .raw⟩
  simp [execOp, he, ev_int hc hy, run_indexArr (P := P) (t := t) (e := e) (sz := sz) (agg := agg) (n := (n : Int)) (by omega) (by omega), add_none]
theorem o_loadGlob {K : Know} {t : TypeId} {x : Operand} {g j sz : Nat} {v : AV} {u : Value} [TyI P t false sz] (hx : aev env x = .raw (.pointer (some ⟨g, j, none⟩))) (hk : get env KT = K.av) (hg : K.g = g) (hu : K.tab[j]? = some u) (hv : ∀ O w S, VR O w S v u) : V1 P N (.load t x) ty env H v := by
  intro S a w hc
  have hkn := hc.env KT
  rw [hk] at hkn
  have hcell := hkn.kn.2.2.1 j u hu
  rw [hg] at hcell
  have h := hc.ev x
  rw [hx] at h
  generalize he : a.eval x = y at h
  cases h
  exact ⟨u, fun _ _ _ _ => by simp [execOp, he, Instr.loadAt, Instr.sureAddr, run_loadVar1 (P := P) (t := t) hcell], hv _ _ _⟩
end
end Go.Av

namespace Go.Av
open Go.Proofs
set_option maxRecDepth 10000
set_option linter.unusedSimpArgs false
set_option linter.unusedVariables false

/-- The place of an array's cell, by a number. -/
theorem w_indexArrN {P : Program} {N : Nat} {env : Env} {H : Heap} {ty : TypeId} {t e : TypeId} {x y : Operand} {id g i j m n : Nat} {k : IntKind} {sz : Nat} {agg : Bool} {o : AObj} [ArI P t m e] [TyI P e agg sz] (hx : aev env x = .pt id g i j) (hid : H[id]? = some o) (hg : o.gen = g)
    (hy : aev env y = .int k (n : Int)) (h1 : n < m) : V1 P N (.indexAddr t x y) ty env H (.pt id g i (j + n * sz)) := w_indexArr (agg := agg) (e := e) hx hid hg hy (by omega) (by omega)

theorem p64 {k : Nat} (h : k < 64) : 2 ^ k < 18446744073709551616 := Nat.pow_lt_pow_right (a := 2) (n := 64) (by decide) h
def KD : Know := ⟨0, Lib.deBruijn64tab.map fun n : Nat => Value.int .u8 (n : Int)⟩
theorem KD_at {q k : Nat} (hi : q < 64) (h : Lib.deBruijn64tab.getD q 0 = k) : KD.tab[q]? = some (.int .u8 (k : Int)) := by
  have hlen : Lib.deBruijn64tab.length = 64 := rfl
  unfold KD
  dsimp only
  generalize Lib.deBruijn64tab = l at h hlen
  rw [List.getElem?_map]
  cases hq : l[q]? with
  | none => rw [List.getElem?_eq_none_iff] at hq; omega
  | some v =>
    rw [List.getD_eq_getElem?_getD, hq] at h
    subst h
    rfl
theorem bits_TZ (x : Nat) (hx : x < 18446744073709551616) (H : Heap) : ACT Tryz.prog KD 179 [.int .u64 (x : Int)] H (Ret (.int .i64 ((Lib.ctz 64 x : Nat) : Int)) H) := by
  refine ACT.body (N := 14) [.tmp 2] Tryz.func179 rfl rfl rfl (Nat.le_of_ble_eq_true rfl) fun B hB => ?_
  refine Z2g ?_
  refine Z16 ?_
  refine aw_cond rfl (fun hc => ?_) (fun hc => ?_)
  · refine Zz ?_
    rw [show Lib.ctz 64 x = 64 by simp at hc; simp [Lib.ctz, hc]]
    exact Zd
  · have hx0 : x ≠ 0 := by simp at hc; omega
    obtain ⟨hlow, hk⟩ := Lib.lowest_bit 64 x hx0 hx
    generalize Lib.ctz 64 x = k at hlow hk
    obtain ⟨hi, htab⟩ := Lib.deBruijn64_at k hk
    have hlt : 2 ^ k < 18446744073709551616 := p64 hk
    generalize hm : 2 ^ k = m at hlow hi htab hlt
    generalize hq : m * 285870213051353865 % 18446744073709551616 / 288230376151711744 = q at hi htab
    have hu := KD_at hi htab
    refine Z2q ?_
    refine ao1 (by decide) (o_neg (r := ((18446744073709551616 - x : Nat) : Int)) rfl (by rw [IntKind.wrap_u64]; omega)) ?_
    refine ao1 (by decide) (o_and (r := (m : Int)) rfl rfl (by rw [u64_and x _ hx (by omega)]; rw [show (18446744073709551616 : Nat) = 2 ^ 64 from rfl, hlow])) ?_
    refine ao1 (by decide) (o_mul (r := ((m * 285870213051353865 % 18446744073709551616 : Nat) : Int)) rfl rfl (by rw [IntKind.wrap_u64]; omega)) ?_
    refine ao1 (by decide) (o_shr (r := (q : Int)) rfl rfl (by omega) (by rw [← hq, show ((2 : Int) ^ min (58 : Int).toNat IntKind.u64.bits) = ((288230376151711744 : Nat) : Int) from rfl, Int.fdiv_eq_ediv_of_nonneg _ (by omega)]; exact (Int.natCast_ediv _ _).symm)) ?_
    refine ao1 (by decide) (o_indexGlob (n := q) rfl rfl (by omega)) ?_
    refine ao1 (by decide) (o_loadGlob (K := KD) (v := .int .u8 (k : Int)) rfl rfl rfl (by rw [Nat.mul_one]; exact hu) (fun _ _ _ => .int)) ?_
    refine ao1 (by decide) (o_conv_int (r := (k : Int)) rfl (wrap64_ok (by omega) (by omega))) ?_
    exact Ze

abbrev eInt (i : Int) : List AV := [.int .i64 i]
theorem ints_bel (n : Nat) (l : List Int) : ∀ r ∈ l.map eInt, AV.bels n r = true := rows_bel (e := eInt) (fun _ => rfl) l
theorem ints_len (l : List Int) : ∀ r ∈ l.map eInt, r.length = 1 := rows_len (e := eInt) (n := 1) (fun _ => rfl) l
theorem eWn_bels (n : Nat) (w : Nat → Nat) : AV.bels n (eWn w) = true := by rw [AV.bels_iff]; intro v hv; simp only [eWn, List.mem_map] at hv; obtain ⟨i, _, rfl⟩ := hv; rfl
theorem eWn_len (w : Nat → Nat) : (eWn w).length = 4 := by simp [eWn]
theorem eW0 (l : List Int) : eWn (wd (fpre l 0)) = [.int .u64 0, .int .u64 0, .int .u64 0, .int .u64 0] := by
  rw [fpre_zero]; simp [eWn, wd_zero, List.range_succ]
def pof (l : List Int) : Nat → Nat := wd (fpre l (okn l))
theorem set_of (l : List Int) (hl : l.length ≤ 9223372036854775807) (H : Heap) : AC Tryz.prog 132 [.pl (l.map eInt)] H (Ret (.tup [.agg (eWn (pof l)), .bool (sok l)]) H) := by
  refine AC.body (N := 34) [.cell 2 111, .tmp 3] Tryz.func132 rfl rfl rfl (Nat.le_of_ble_eq_true rfl) fun B hB => ?_
  refine Z2 ?_
  refine Z75 ?_
  refine Z1o ?_
  refine Z75 ?_
  refine Z7 ?_
  refine Z1a ?_
  refine Z6t ?_
  refine Z4c ?_
  refine aw_loop (G := Nat) (fun k => k ≤ l.length ∧ ∀ i, i < k → okB l i = true) (fun k => [(2, .pt (Lid H.length 0) 0 0 0), (4, .pt (Lid H.length 1) 0 0 0), (5, .int .i64 (lastN l k)), (8, .pl (l.map eInt)), (9, .int .i64 (l.length : Int)), (10, .int .i64 (k : Int))]) (fun k => H ++ [⟨0, 4, [[.int .u64 0, .int .u64 0, .int .u64 0, .int .u64 0]]⟩, ⟨0, 4, [eWn (wd (fpre l k))]⟩]) (fun k => l.length - k) 0 ⟨Nat.zero_le _, fun i hi => by omega⟩ (by repeat (first | exact Sub.nil | refine Sub.cons (by first | rfl | (simp [get]; done)) ?_)) (.inl (by rw [eW0])) ?_
  rintro k ⟨hk, hno⟩
  refine Z4d ?_
  refine aw_cond rfl (fun hc => ?_) (fun hc => ?_)
  · have hlt : k < l.length := by simpa using hc
    obtain ⟨x, hx, hxl⟩ := get_in hlt
    have hr := map_get eInt hx
    have hok := okB_last hx hno
    refine Z2 ?_
    refine Z4f ?_
    refine Zc ?_
    refine aw_out 20 (.bool (!okB l k)) ?_ ?_
    · refine Z2r ?_
      refine Zk ?_
      refine ao_split rfl rfl (fun hg3 => ?_) (fun hg3 => ?_)
      · refine Z36 ?_
        refine Zn ?_
        exact Z4i
      · refine Zl ?_
        refine Z23 ?_
        refine Zn ?_
        exact Z4i
    refine Z1 ?_
    refine aw_cond rfl (fun hc => ?_) (fun hc => ?_)
    · refine Z2 ?_
      refine Z76 ?_
      refine Z77 ?_
      refine Zg ?_
      rw [sok_false hlt (by simpa using hc), show wd (fpre l k) = pof l by rw [pof, okn_at hlt hno (by simpa using hc)]]
      exact Z78
    · have hokk : okB l k = true := by simpa using hc
      obtain ⟨h0, h256⟩ := okB_range hx hokk
      obtain ⟨n, rfl⟩ : ∃ n : Nat, x = n := ⟨x.toNat, by omega⟩
      have hn4 : n / 64 < 4 := by omega
      have hp : 2 ^ (n % 64) < 18446744073709551616 := p64 (by omega)
      have hcell : (eWn (wd (fpre l k)))[0 + n / 64 * 1]? = some (.int .u64 ((wd (fpre l k) (n / 64) : Nat) : Int)) := by rw [Nat.zero_add, Nat.mul_one]; exact eWn_get _ hn4
      have hlast : lastN l (k + 1) = (n : Int) := by rw [lastN, if_neg (by omega), Nat.add_sub_cancel, hx]; rfl
      have hset : (eWn (wd (fpre l k))).take (0 + n / 64 * 1) ++ [AV.int .u64 ((wd (fpre l k) (n / 64) ||| 2 ^ (n % 64) : Nat) : Int)] ++ (eWn (wd (fpre l k))).drop (0 + n / 64 * 1 + 1) = eWn (wd (fpre l (k + 1))) := by
        rw [Nat.zero_add, Nat.mul_one, eWn_set _ hn4, fpre_step hx]
        refine eWn_congr fun j _ => ?_
        rw [wd_put]
        split <;> simp_all
      refine Z1u ?_
      refine aw_drawR mixed (some 9) 1 ?_
      refine Z79 ?_
      refine aq0 1 rfl (by decide +kernel) (by decide) (fun _ => o_quo (r := ((n / 64 : Nat) : Int)) rfl rfl (by omega) (wrap64_ok (n := ((n / 64 : Nat) : Int)) (by omega) (by omega))) ?_
      refine aqr 2 rfl (by decide +kernel) (by decide) (fun G hG => w_indexArrN rfl (lk rfl hG) rfl rfl hn4) ?_
      refine aqr 3 rfl (by decide +kernel) (by decide) (fun G hG => w_load1 (v := .int .u64 _) rfl (lk rfl hG) rfl rfl hcell) ?_
      refine Z1j ?_
      refine aq0 5 rfl (by decide +kernel) (by decide) (fun _ => o_rem (r := ((n % 64 : Nat) : Int)) rfl rfl (by omega) rfl) ?_
      refine aq0 6 rfl (by decide +kernel) (by decide) (fun _ => o_shl (r := ((2 ^ (n % 64) : Nat) : Int)) rfl rfl (by omega) (by rw [show min ((n % 64 : Nat) : Int).toNat IntKind.u64.bits = n % 64 by show min (n % 64) 64 = _; omega, Int.one_mul]; rw [show ((2 : Int) ^ (n % 64)) = ((2 ^ (n % 64) : Nat) : Int) by simp]; exact u64_wrap _ hp)) ?_
      refine aq0 7 rfl (by decide +kernel) (by decide) (fun _ => o_or (r := ((wd (fpre l k) (n / 64) ||| 2 ^ (n % 64) : Nat) : Int)) rfl rfl (u64_or _ _ (wd_lt _ _) hp)) ?_
      refine aqr 8 rfl (by decide +kernel) (by decide) (fun G hG => w_indexArrN rfl (lk rfl hG) rfl rfl hn4) ?_
      refine aqs 9 rfl (by decide +kernel) (by first | exact fun _ => trivial | exact fun _ => ⟨_, rfl⟩ | exact fun _ => ⟨_, rfl, rfl⟩ | exact fun _ => ⟨_, rfl, rfl, rfl⟩ | exact yet_done (by decide +kernel)) (by rintro _ ⟨⟩) (w_storeP (sz := 1) (v := .int .u64 _) (r' := eWn (wd (fpre l (k + 1)))) rfl rfl rfl rfl rfl rfl rfl rfl (by show _ ≤ 4; omega) hset) ?_
      refine Z1k ?_
      refine Z7a ?_
      refine ⟨k + 1, by omega, ⟨by omega, fun i hi => ?_⟩, by rw [hlast]; exact (by repeat (first | exact Sub.nil | refine Sub.cons (by first | rfl | (simp [get]; done)) ?_)), .refl _ _⟩
      rcases Nat.lt_or_eq_of_le (Nat.le_of_lt_succ hi) with h | h
      · exact hno i h
      · subst h; exact hokk
  · have : k = l.length := by simp at hc; omega
    subst this
    refine Z2 ?_
    refine Z76 ?_
    refine Z77 ?_
    refine Zg ?_
    rw [sok_true hno, show wd (fpre l l.length) = pof l by rw [pof, okn_all hno]]
    exact Z78
end Go.Av

/-
  A REGION THAT DRAWS: two rows of the call's own are as1 they were.
-/
namespace Go.Av
def AtR2 (H0 L0 : Heap) (k1 k2 : Nat) (H : Heap) : Prop := ∃ G : Heap, H = H0 ++ G ∧ G[k1]? = L0[k1]? ∧ G[k2]? = L0[k2]?
section
variable {P : Program} {N : Nat} {B : Base} {ops : Array Oper} {a : Option Nat} {C : Heap → Prop} {F : Env → Heap → Prop} {Q : Post}
variable {fuel : Nat} {listed : Array Bool} {env : Env} {H H0 L : Heap} {op : Op} {ty : TypeId} {pos : String} {after : Array Edge} {v : AV} {id : Nat} {l : List Oper}
theorem aw_draw2 (hm : P.follows .mixedOrders = true) (a : Option Nat) (k1 k2 : Nat) (h : AAny P N B l.toArray a (AtR2 H0 L k1 k2) (Q .nrm) l.length (Array.replicate l.length false) env (H0 ++ L)) : AWp P N B (.region id l.toArray true) Q env (H0 ++ L) := aw_draw hm a _ h
theorem aqr2 {d k1 k2 : Nat} {L0 : Heap} (i : Nat) (hi : ops[i]? = some ⟨some d, op, ty, pos, after, none⟩) (hB : firstB ops listed a i = true) (hd : DN d N) (h1 : ∀ G : Heap, G[k1]? = L0[k1]? → G[k2]? = L0[k2]? → V1 P N op ty (renv ⟨some d, op, ty, pos, after, none⟩ env) (H0 ++ G) v)
    (h : AAny P N B ops a (AtR2 H0 L0 k1 k2) F fuel (listed.setIfInBounds i true) ((d, v) :: env) H) : AAny P N B ops a (AtR2 H0 L0 k1 k2) F (fuel + 1) listed env H :=
  aq1 i hi hB hd (by rintro _ ⟨G, rfl, hG1, hG2⟩; exact h1 G hG1 hG2) h
theorem aqyr2 {d j g k1 k2 : Nat} {want : Bool} {L0 : Heap} (i : Nat) (hi : ops[i]? = some ⟨some d, op, ty, pos, after, some (j, want)⟩) (hB : firstB ops listed a i = true) (hd : DN d N) (hj : (ops[j]?).bind (·.dst) = some g) (hb : get env g = .bool want)
    (h1 : ∀ G : Heap, G[k1]? = L0[k1]? → G[k2]? = L0[k2]? → V1 P N op ty (renv ⟨some d, op, ty, pos, after, some (j, want)⟩ env) (H0 ++ G) v)
    (h : AAny P N B ops a (AtR2 H0 L0 k1 k2) F fuel (listed.setIfInBounds i true) ((d, v) :: env) H) : AAny P N B ops a (AtR2 H0 L0 k1 k2) F (fuel + 1) listed env H :=
  aqy1 i hi hB hd hj hb (by rintro _ ⟨G, rfl, hG1, hG2⟩; exact h1 G hG1 hG2) h
end
end Go.Av

namespace Go.Av
open Go.Proofs
set_option maxRecDepth 10000
set_option linter.unusedSimpArgs false
set_option linter.unusedVariables false

theorem sok_len {l : List Int} (h : sok l = true) : ∀ k : Nat, k < l.length → (k : Int) ≤ l.getD k 0 := by
  intro k
  induction k with
  | zero =>
    intro hk
    have hm : l[0]? = some l[0] := List.getElem?_eq_getElem hk
    have := okB_range hm (sok_get h hk)
    simp only [List.getD_eq_getElem?_getD, hm, Option.getD_some]
    omega
  | succ k ih =>
    intro hk
    have hm : l[k + 1]? = some l[k + 1] := List.getElem?_eq_getElem hk
    have hm0 : l[k]? = some l[k] := List.getElem?_eq_getElem (by omega)
    have h1 := sok_get h hk
    rw [okB_get hm] at h1
    have ih := ih (by omega)
    simp only [List.getD_eq_getElem?_getD, hm0, hm, Option.getD_some] at ih ⊢
    simp only [Nat.add_sub_cancel, hm0, Bool.and_eq_true, Bool.or_eq_true, decide_eq_true_eq, beq_iff_eq] at h1
    omega
theorem sok_256 {l : List Int} (h : sok l = true) : l.length ≤ 256 := by
  rcases Nat.lt_or_ge 256 l.length with hl | hl
  · have h1 := sok_len h 256 hl
    have hm : l[256]? = some l[256] := List.getElem?_eq_getElem hl
    have := okB_range hm (sok_get h hl)
    simp only [List.getD_eq_getElem?_getD, hm, Option.getD_some] at h1
    omega
  · exact hl
theorem pof_ok {l : List Int} (h : sok l = true) : pof l = wd (inl l) := by
  rw [pof, okn_all fun i hi => sok_get h hi, fpre_all]
theorem set_Right (l : List Int) (hl : l.length ≤ 9223372036854775807) (H : Heap) : AC Tryz.prog 91 [.pl (l.map eInt)] H (Ret (.bool (sok l)) H) := by
  refine AC.body (N := 11) [.tmp 2] Tryz.func91 rfl rfl rfl (Nat.le_of_ble_eq_true rfl) fun B hB => ?_
  refine Z1p ?_
  refine Z45 ?_
  refine Z7b ?_
  refine Z7d ?_
  refine Z7e ?_
  refine Z77 ?_
  refine Z2p ?_
  refine Zg ?_
  exact Zd
theorem set_both (a b : List Int) (ha : a.length ≤ 9223372036854775807) (hb : b.length ≤ 9223372036854775807) (H : Heap) : AC Tryz.prog 79 [.pl (a.map eInt), .pl (b.map eInt)] H (Ret (.tup [.agg (eWn (pof a)), .agg (eWn (pof b)), .bool (sok a && sok b)]) H) := by
  refine AC.body (N := 27) [.cell 4 111, .cell 5 111, .tmp 6] Tryz.func79 rfl rfl rfl (Nat.le_of_ble_eq_true rfl) fun B hB => ?_
  refine Z2 ?_
  refine Z75 ?_
  refine Z75 ?_
  refine Z1o ?_
  refine Z45 ?_
  refine Z7b ?_
  refine Z7d ?_
  refine Z7e ?_
  refine Z77 ?_
  refine Z1o ?_
  refine Z45 ?_
  refine Z7b ?_
  refine Z7d ?_
  refine Z7e ?_
  refine Z77 ?_
  refine Zf ?_
  refine Z6 ?_
  have hbel : ∀ n : Nat, (AV.tup [.agg (eWn (pof a)), .agg (eWn (pof b)), .bool (sok a && sok b)]).bel n = true := by intro n; simp [AV.bel, AV.bels, eWn_bels]
  refine Z1 ?_
  refine aw_draw2 mixed none 2 3 ?_
  refine Z1f ?_
  first | refine aqr2 0 rfl (by decide +kernel) (by decide) (fun G hG1 hG2 => w_loadR rfl (lk rfl hG1) rfl rfl (eWn_len _)) ?_ | refine aqr2 0 rfl (by decide +kernel) (by decide) (fun G hG1 hG2 => w_loadR rfl (lk rfl hG2) rfl rfl (eWn_len _)) ?_
  first | refine aqr2 1 rfl (by decide +kernel) (by decide) (fun G hG1 hG2 => w_loadR rfl (lk rfl hG1) rfl rfl (eWn_len _)) ?_ | refine aqr2 1 rfl (by decide +kernel) (by decide) (fun G hG1 hG2 => w_loadR rfl (lk rfl hG2) rfl rfl (eWn_len _)) ?_
  refine Z7f ?_
  refine Z7g ?_
  refine aq_split (g := 24) rfl (fun hg3 => ?_) (fun hg3 => ?_)
  · refine aqy0 (g := 24) 4 rfl (by decide +kernel) (by decide) rfl rfl (fun _ => o_move (v := .bool _) rfl) ?_
    refine Z7h ?_
    refine Z7i ?_
    refine Z7j ?_
    refine Z7k ?_
    refine Z1l ?_
    rw [hg3] at hbel ⊢
    exact Z7l
  · refine aqn0 (g := 24) 4 rfl (by decide +kernel) (by decide) rfl rfl rfl ?_
    refine Z7h ?_
    refine Z7i ?_
    refine Z7j ?_
    refine Z7k ?_
    refine Z1l ?_
    rw [hg3] at hbel ⊢
    exact Z7l
end Go.Av

namespace Go.Av
open Go.Proofs
set_option maxRecDepth 10000
set_option linter.unusedSimpArgs false
set_option linter.unusedVariables false

theorem words_zero (f : Nat → Bool) : ((List.range 4).all fun k => wd f k == 0) = decide (setl f = []) := by
  rw [Bool.eq_iff_iff, List.all_eq_true, decide_eq_true_eq, setl, List.map_eq_nil_iff, List.filter_eq_nil_iff]
  simp only [List.mem_range, beq_iff_eq, wd_eq_zero]
  constructor
  · intro h n hn
    have := h (n / 64) (by omega) (n % 64) (by omega)
    rw [show 64 * (n / 64) + n % 64 = n by omega] at this
    simp [this]
  · intro h k hk j hj
    have := h (64 * k + j) (by omega)
    simpa using this
theorem all_range_step {p : Nat → Bool} (k : Nat) : (List.range (k + 1)).all p = ((List.range k).all p && p k) := by
  rw [List.range_succ, List.all_append]; simp
theorem set_Part (a b : List Int) (ha : a.length ≤ 9223372036854775807) (hb : b.length ≤ 9223372036854775807) (H : Heap) : AC Tryz.prog 28 [.pl (a.map eInt), .pl (b.map eInt)] H (Ret (.bool (spart a b)) H) := by
  refine AC.body (N := 32) [.tmp 4] Tryz.func28 rfl rfl rfl (Nat.le_of_ble_eq_true rfl) fun B hB => ?_
  refine Z1p ?_
  refine Z7m ?_
  refine Z7n ?_
  refine Z7d ?_
  refine Z7c ?_
  refine Z7e ?_
  refine Z75 ?_
  refine Z77 ?_
  refine Z77 ?_
  refine Zf ?_
  refine Z14 ?_
  refine Z1c ?_
  refine aw_loop (G := Nat) (fun k => k ≤ 4) (fun k => [(5, .pt (Lid H.length 0) 0 0 0), (6, .pt (Lid H.length 1) 0 0 0), (7, .bool (sok a && sok b && (List.range k).all fun i => wd (fun n => fpre a (okn a) n && !fpre b (okn b) n) i == 0)), (16, .int .i64 (k : Int))]) (fun _ => H ++ [⟨0, 4, [eWn (pof a)]⟩, ⟨0, 4, [eWn (pof b)]⟩]) (fun k => 4 - k) 0 (Nat.zero_le _) (by simp only [List.range_zero, List.all_nil, Bool.and_true]; exact (by repeat (first | exact Sub.nil | refine Sub.cons (by first | rfl | (simp [get]; done)) ?_))) (Fit.refl _ _) ?_
  intro k hk
  refine Z4d ?_
  refine aw_cond rfl (fun hc => ?_) (fun hc => ?_)
  · have hk4 : k < 4 := by simp at hc; omega
    have hx : (eWn (pof a))[0 + k * 1]? = some (.int .u64 ((wd (fpre a (okn a)) k : Nat) : Int)) := by rw [Nat.zero_add, Nat.mul_one]; exact eWn_get _ hk4
    have hy : (eWn (pof b))[0 + k * 1]? = some (.int .u64 ((wd (fpre b (okn b)) k : Nat) : Int)) := by rw [Nat.zero_add, Nat.mul_one]; exact eWn_get _ hk4
    refine Z1u ?_
    refine aw_of_out 7 (.bool (sok a && sok b && (List.range (k + 1)).all fun i => wd (fun n => fpre a (okn a) n && !fpre b (okn b) n) i == 0)) ?_ ?_
    · refine Z7o ?_
      refine Z1f ?_
      refine Z7p ?_
      refine Z7q ?_
      refine aq_split (g := 20) rfl (fun hg1 => ?_) (fun hg1 => ?_)
      · refine Z7r ?_
        refine Z7s ?_
        refine Z7t ?_
        refine Z7u ?_
        refine Z7v ?_
        refine Z7w ?_
        refine aqy0 (g := 20) 8 rfl (by decide +kernel) (by decide) rfl rfl (fun _ => o_andNot (r := ((wd (fun n => fpre a (okn a) n && !fpre b (okn b) n) k : Nat) : Int)) rfl rfl (u64_andNot _ _ _)) ?_
        refine Z7x ?_
        refine Z7y ?_
        refine Z7z ?_
        exact Z80
      · refine Z81 ?_
        refine Z82 ?_
        refine Z83 ?_
        refine Z84 ?_
        refine Z85 ?_
        refine Z87 ?_
        refine Z7y ?_
        refine Z7z ?_
        exact Z80
    refine Z7a ?_
    exact ⟨k + 1, by omega, by omega, (by repeat (first | exact Sub.nil | refine Sub.cons (by first | rfl | (simp [get]; done)) ?_)), .refl _ _⟩
  · have : k = 4 := by simp at hc; omega
    subst this
    rw [words_zero]
    refine Z2 ?_
    refine Zj ?_
    refine Zg ?_
    rw [show (sok a && sok b && decide (setl (fun n => fpre a (okn a) n && !fpre b (okn b) n) = [])) = spart a b by
      unfold spart
      cases h1 : sok a with
      | false => simp
      | true =>
        cases h2 : sok b with
        | false => simp
        | true => rw [okn_all fun i hi => sok_get h1 hi, okn_all fun i hi => sok_get h2 hi, fpre_all, fpre_all]]
    exact Zd
theorem set_Apart (a b : List Int) (ha : a.length ≤ 9223372036854775807) (hb : b.length ≤ 9223372036854775807) (H : Heap) : AC Tryz.prog 166 [.pl (a.map eInt), .pl (b.map eInt)] H (Ret (.bool (sapart a b)) H) := by
  refine AC.body (N := 32) [.tmp 4] Tryz.func166 rfl rfl rfl (Nat.le_of_ble_eq_true rfl) fun B hB => ?_
  refine Z1p ?_
  refine Z7m ?_
  refine Z7n ?_
  refine Z7d ?_
  refine Z7c ?_
  refine Z7e ?_
  refine Z75 ?_
  refine Z77 ?_
  refine Z77 ?_
  refine Zf ?_
  refine Z14 ?_
  refine Z1c ?_
  refine aw_loop (G := Nat) (fun k => k ≤ 4) (fun k => [(5, .pt (Lid H.length 0) 0 0 0), (6, .pt (Lid H.length 1) 0 0 0), (7, .bool (sok a && sok b && (List.range k).all fun i => wd (fun n => fpre a (okn a) n && fpre b (okn b) n) i == 0)), (16, .int .i64 (k : Int))]) (fun _ => H ++ [⟨0, 4, [eWn (pof a)]⟩, ⟨0, 4, [eWn (pof b)]⟩]) (fun k => 4 - k) 0 (Nat.zero_le _) (by simp only [List.range_zero, List.all_nil, Bool.and_true]; exact (by repeat (first | exact Sub.nil | refine Sub.cons (by first | rfl | (simp [get]; done)) ?_))) (Fit.refl _ _) ?_
  intro k hk
  refine Z4d ?_
  refine aw_cond rfl (fun hc => ?_) (fun hc => ?_)
  · have hk4 : k < 4 := by simp at hc; omega
    have hx : (eWn (pof a))[0 + k * 1]? = some (.int .u64 ((wd (fpre a (okn a)) k : Nat) : Int)) := by rw [Nat.zero_add, Nat.mul_one]; exact eWn_get _ hk4
    have hy : (eWn (pof b))[0 + k * 1]? = some (.int .u64 ((wd (fpre b (okn b)) k : Nat) : Int)) := by rw [Nat.zero_add, Nat.mul_one]; exact eWn_get _ hk4
    refine Z1u ?_
    refine aw_of_out 7 (.bool (sok a && sok b && (List.range (k + 1)).all fun i => wd (fun n => fpre a (okn a) n && fpre b (okn b) n) i == 0)) ?_ ?_
    · refine Z7o ?_
      refine Z1f ?_
      refine Z7p ?_
      refine Z7q ?_
      refine aq_split (g := 20) rfl (fun hg1 => ?_) (fun hg1 => ?_)
      · refine Z7r ?_
        refine Z7s ?_
        refine Z7t ?_
        refine Z7u ?_
        refine Z7v ?_
        refine Z7w ?_
        refine aqy0 (g := 20) 8 rfl (by decide +kernel) (by decide) rfl rfl (fun _ => o_and (r := ((wd (fun n => fpre a (okn a) n && fpre b (okn b) n) k : Nat) : Int)) rfl rfl (by rw [u64_and _ _ (wd_lt _ _) (wd_lt _ _), wd_and])) ?_
        refine Z7x ?_
        refine Z7y ?_
        refine Z7z ?_
        exact Z88
      · refine Z81 ?_
        refine Z82 ?_
        refine Z83 ?_
        refine Z84 ?_
        refine Z85 ?_
        refine Z87 ?_
        refine Z7y ?_
        refine Z7z ?_
        exact Z88
    refine Z7a ?_
    exact ⟨k + 1, by omega, by omega, (by repeat (first | exact Sub.nil | refine Sub.cons (by first | rfl | (simp [get]; done)) ?_)), .refl _ _⟩
  · have : k = 4 := by simp at hc; omega
    subst this
    rw [words_zero]
    refine Z2 ?_
    refine Zj ?_
    refine Zg ?_
    rw [show (sok a && sok b && decide (setl (fun n => fpre a (okn a) n && fpre b (okn b) n) = [])) = sapart a b by
      unfold sapart
      cases h1 : sok a with
      | false => simp
      | true =>
        cases h2 : sok b with
        | false => simp
        | true => rw [okn_all fun i hi => sok_get h1 hi, okn_all fun i hi => sok_get h2 hi, fpre_all, fpre_all]]
    exact Zd
end Go.Av

namespace Go.Av
open Go.Proofs
set_option maxRecDepth 10000
set_option linter.unusedSimpArgs false
set_option linter.unusedVariables false

structure LS where
  acc : List Int
  x : Nat
set_option maxHeartbeats 0 in
theorem words_list (f : Nat → Bool) (H : Heap) : ACT Tryz.prog KD 143 [.agg (eWn (wd f))] H (Ret (.pl ((setl f).map eInt)) H) := by
  have hbel : ∀ (n : Nat) (g m : Nat) (l : List Int), ∀ o ∈ [AObj.mk 0 4 [eWn (wd f)], AObj.mk g 1 (l.map eInt)], ∀ r ∈ o.rows, AV.bels n r = true := by
    intro n g m l o ho r hr
    simp only [List.mem_cons, List.not_mem_nil, or_false] at ho
    rcases ho with rfl | rfl
    · simp only [List.mem_singleton] at hr; subst hr; exact eWn_bels _ _
    · exact ints_bel _ _ r hr
  refine ACT.body (N := 27) [.tmp 2] Tryz.func143 rfl rfl rfl (Nat.le_of_ble_eq_true rfl) fun B hB => ?_
  refine Z2 ?_
  refine ao2 (by rintro _ ⟨⟩; decide) (o_boxL (sz := 4) (v := .agg _) rfl rfl rfl (eWn_len _) (by decide) rfl) ?_
  refine Z89 ?_
  refine Z8a ?_
  refine aw_ghostL (k := 1) 3 1 rfl (by decide) rfl ?_
  refine Z2 ?_
  refine Z8b ?_
  refine Z4c ?_
  refine aw_loop (G := Nat) (fun i => i ≤ 4) (fun i => [(KT, KD.av), (3, .sl (Lid H.length 1) (setN f i).length 0 (setN f i).length (setN f i).length), (6, .agg (eWn (wd f))), (7, .int .i64 (i : Int))]) (fun i => H ++ [⟨0, 4, [eWn (wd f)]⟩, ⟨(setN f i).length, 1, (setN f i).map eInt⟩]) (fun i => 4 - i) 0 (Nat.zero_le _) (by repeat (first | exact Sub.nil | refine Sub.cons (by first | rfl | (simp [get]; done)) ?_)) (Fit.refl _ _) ?_
  intro i hi
  refine Z4d ?_
  refine aw_cond rfl (fun hc => ?_) (fun hc => ?_)
  · have hi4 : i < 4 := by simp at hc; omega
    have hcell : (eWn (wd f))[((i : Nat) : Int).toNat * 1]? = some (.int .u64 ((wd f i : Nat) : Int)) := by show (eWn (wd f))[i * 1]? = _; rw [Nat.mul_one]; exact eWn_get _ hi4
    have hstep := setN_step f i
    have hslen := setN_len f (i + 1)
    refine Z10 ?_
    refine ao1 (by decide) (o_index1 (sz := 1) (v := .int .u64 _) rfl rfl (by omega) (by omega) hcell) ?_
    refine Z3 ?_
    refine Z1d ?_
    refine aw_loop (G := LS) (fun s => s.x < 18446744073709551616 ∧ s.acc ++ (bl s.x).map (fun j : Nat => ((64 * i + j : Nat) : Int)) = setN f (i + 1)) (fun s => [(KT, KD.av), (3, .sl (Lid H.length 1) s.acc.length 0 s.acc.length s.acc.length), (4, .int .i64 (i : Int)), (5, .int .u64 (s.x : Int)), (6, .agg (eWn (wd f))), (7, .int .i64 (i : Int))]) (fun s => H ++ [⟨0, 4, [eWn (wd f)]⟩, ⟨s.acc.length, 1, s.acc.map eInt⟩]) (fun s => s.x) ⟨setN f i, wd f i⟩ ⟨wd_lt f i, hstep.symm⟩ (by repeat (first | exact Sub.nil | refine Sub.cons (by first | rfl | (simp [get]; done)) ?_)) (Fit.refl _ _) ?_
    rintro ⟨acc, x⟩ ⟨hx64, hacc⟩
    simp only at hx64 hacc ⊢
    have hal : acc.length ≤ 256 := by
      have := congrArg List.length hacc
      rw [List.length_append] at this
      omega
    refine Z10 ?_
    refine Z2n ?_
    refine Zb ?_
    refine aw_cond rfl (fun hc => ?_) (fun hc => ?_)
    · have hx0 : x ≠ 0 := by simp at hc; omega
      have hb := bl_step hx0 hx64
      have hlt := and_pred_lt hx0
      obtain ⟨hk, _⟩ := low_bit hx0 hx64
      refine Z8d ?_
      refine ao1 (by decide) (o_mul (r := ((64 * i : Nat) : Int)) rfl rfl (by rw [show (64 : Int) * (i : Int) = ((64 * i : Nat) : Int) by omega]; exact wrap64_ok (by omega) (by omega))) ?_
      refine Za ?_
      refine ao2 (by rintro _ ⟨⟩; decide) (V2.callT (bits_TZ x hx64 _) rfl rfl) ?_
      refine ao1 (by decide) (o_add (r := ((64 * i + Lib.ctz 64 x : Nat) : Int)) rfl rfl (by rw [show ((64 * i : Nat) : Int) + ((Lib.ctz 64 x : Nat) : Int) = ((64 * i + Lib.ctz 64 x : Nat) : Int) by omega]; exact wrap64_ok (by omega) (by omega))) ?_
      refine Z8e ?_
      refine Z8f ?_
      refine Z8g ?_
      rw [show (acc.map eInt).take acc.length = acc.map eInt from List.take_of_length_le (by simp)]
      refine Z2q ?_
      refine ao1 (by decide) (o_sub (r := ((x - 1 : Nat) : Int)) rfl rfl (u64_pred x hx0 hx64)) ?_
      refine ao1 (by decide) (o_and (r := ((x &&& (x - 1) : Nat) : Int)) rfl rfl (u64_and _ _ hx64 (by omega))) ?_
      refine Zc ?_
      refine ⟨⟨acc ++ [((64 * i + Lib.ctz 64 x : Nat) : Int)], x &&& (x - 1)⟩, hlt, ⟨by simp only; omega, ?_⟩, by simp only [List.length_append, List.length_cons, List.length_nil]; exact (by repeat (first | exact Sub.nil | refine Sub.cons (by first | rfl | (simp [get]; done)) ?_)), Fit.loc hB (by simp only [List.length_append, List.length_cons, List.length_nil, List.map_append, List.map_cons, List.map_nil]; rfl) (by repeat (first | exact EBel.nil | refine EBel.cons (by first | rfl | (simp [AV.bel, AV.bels, Lid]; done) | (simp [AV.bel, AV.bels, Lid]; omega)) ?_)) (hbel _ _ 0 _)⟩
      simp only
      rw [← hacc, hb, List.map_cons, List.append_assoc]
      rfl
    · have hx0 : x = 0 := by simp at hc; omega
      subst hx0
      rw [bl_zero, List.map_nil, List.append_nil] at hacc
      subst hacc
      refine Z7a ?_
      exact ⟨i + 1, by omega, by omega, (by repeat (first | exact Sub.nil | refine Sub.cons (by first | rfl | (simp [get]; done)) ?_)), Fit.refl _ _⟩
  · have : i = 4 := by simp at hc; omega
    subst this
    rw [setN_four]
    refine Z8c ?_
    refine Z8a ?_
    refine aw_freezeL (ys := (setl f).map eInt) 2 rfl rfl rfl rfl (by rw [List.drop_zero, List.take_of_length_le (by simp)]) (by simp) (ints_bel 0 _) ?_
    exact Z8h

theorem set_Join_1 (f g : Nat → Bool) (k : Nat) (H : Heap) : AC Tryz.prog 133 [.int .u64 (wd f k : Int), .int .u64 (wd g k : Int)] H (Ret (.int .u64 ((wd (fun n => f n || g n) k : Nat) : Int)) H) := by
  refine AC.body (N := 8) [.tmp 4] Tryz.func133 rfl rfl rfl (Nat.le_of_ble_eq_true rfl) fun B hB => ?_
  refine Z2g ?_
  refine Za ?_
  refine ao1 (by decide) (o_or (r := ((wd (fun n => f n || g n) k : Nat) : Int)) rfl rfl (by rw [u64_or _ _ (wd_lt _ _) (wd_lt _ _), wd_or])) ?_
  exact Ze
theorem set_Less_1 (f g : Nat → Bool) (k : Nat) (H : Heap) : AC Tryz.prog 90 [.int .u64 (wd f k : Int), .int .u64 (wd g k : Int)] H (Ret (.int .u64 ((wd (fun n => f n && !g n) k : Nat) : Int)) H) := by
  refine AC.body (N := 8) [.tmp 4] Tryz.func90 rfl rfl rfl (Nat.le_of_ble_eq_true rfl) fun B hB => ?_
  refine Z2g ?_
  refine Za ?_
  refine ao1 (by decide) (o_andNot (r := ((wd (fun n => f n && !g n) k : Nat) : Int)) rfl rfl (u64_andNot _ _ _)) ?_
  exact Ze

set_option maxHeartbeats 0 in
theorem set_put (g : Nat) [FnI Tryz.prog g] (op : Bool → Bool → Bool) (hdo : ∀ (f h : Nat → Bool) (k : Nat) (H : Heap), AC Tryz.prog g [.int .u64 (wd f k : Int), .int .u64 (wd h k : Int)] H (Ret (.int .u64 ((wd (fun n => op (f n) (h n)) k : Nat) : Int)) H))
    (a b : List Int) (ha : a.length ≤ 9223372036854775807) (hb : b.length ≤ 9223372036854775807) (H : Heap) : ACT Tryz.prog KD 89 [.pl (a.map eInt), .pl (b.map eInt), .fn (.func g) [] []] H (Ret (.pl ((setop op a b).map eInt)) H) := by
  refine ACT.body (N := 36) [.tmp 6] Tryz.func89 rfl rfl rfl (Nat.le_of_ble_eq_true rfl) fun B hB => ?_
  refine Z8i ?_
  refine Z7n ?_
  refine Z7d ?_
  refine Z7c ?_
  refine Z7e ?_
  refine Z75 ?_
  refine Z77 ?_
  refine Z77 ?_
  refine Z2p ?_
  refine Z3u ?_
  refine aw_cond rfl (fun hc => ?_) (fun hc => ?_)
  · have hs : (sok a && sok b) = false := by cases h : (sok a && sok b) <;> simp_all
    refine Z43 ?_
    refine aw_nslpl 6 rfl ?_
    refine aw_ret ?_
    rw [show setop op a b = [] by rw [setop, hs]; rfl]
    exact Zd
  have hs : sok a = true ∧ sok b = true := by simpa using hc
  rw [show setop op a b = setl (fun n => op (inl a n) (inl b n)) by rw [setop, hs.1, hs.2]; rfl, pof_ok hs.1, pof_ok hs.2]
  refine Z10 ?_
  refine Z1c ?_
  refine aw_loop (G := Nat) (fun k => k ≤ 4) (fun k => [(KT, KD.av), (2, .fn (.func g) [] []), (7, .pt (Lid H.length 0) 0 0 0), (8, .pt (Lid H.length 1) 0 0 0), (20, .int .i64 (k : Int))]) (fun k => H ++ [⟨0, 4, [eWn (fun j => if j < k then wd (fun n => op (inl a n) (inl b n)) j else wd (inl a) j)]⟩, ⟨0, 4, [eWn (wd (inl b))]⟩]) (fun k => 4 - k) 0 (Nat.zero_le _) (by repeat (first | exact Sub.nil | refine Sub.cons (by first | rfl | (simp [get]; done)) ?_)) (.inl (by simp)) ?_
  intro k hk
  refine Z4d ?_
  refine aw_cond rfl (fun hc => ?_) (fun hc => ?_)
  · have hk4 : k < 4 := by simp at hc; omega
    have hx : (eWn (fun j => if j < k then wd (fun n => op (inl a n) (inl b n)) j else wd (inl a) j))[0 + k * 1]? = some (.int .u64 ((wd (inl a) k : Nat) : Int)) := by
      rw [Nat.zero_add, Nat.mul_one, eWn_get _ hk4]; simp
    have hy : (eWn (wd (inl b)))[0 + k * 1]? = some (.int .u64 ((wd (inl b) k : Nat) : Int)) := by rw [Nat.zero_add, Nat.mul_one]; exact eWn_get _ hk4
    have hset : (eWn (fun j => if j < k then wd (fun n => op (inl a n) (inl b n)) j else wd (inl a) j)).take (0 + k * 1) ++ [AV.int .u64 ((wd (fun n => op (inl a n) (inl b n)) k : Nat) : Int)] ++ (eWn (fun j => if j < k then wd (fun n => op (inl a n) (inl b n)) j else wd (inl a) j)).drop (0 + k * 1 + 1) = eWn (fun j => if j < k + 1 then wd (fun n => op (inl a n) (inl b n)) j else wd (inl a) j) := by
      rw [Nat.zero_add, Nat.mul_one, eWn_set _ hk4]
      refine eWn_congr fun j _ => ?_
      by_cases e : j = k
      · subst e; simp
      · rw [if_neg e]
        by_cases e2 : j < k
        · rw [if_pos e2, if_pos (by omega)]
        · rw [if_neg e2, if_neg (by omega)]
    refine Z1u ?_
    refine aw_drawP mixed (some 10) 2 ?_
    refine Z79 ?_
    first | refine aq0 1 rfl (by decide +kernel) (by decide) (fun _ => o_move (v := .fn _ _ _) rfl) ?_ | refine aq0 1 rfl (by decide +kernel) (by decide) (fun _ => o_move (v := .nfn) rfl) ?_
    refine Z5c ?_
    refine aqp 3 rfl (by decide +kernel) (by decide) (fun G => w_indexArrN rfl (lk rfl rfl) rfl rfl hk4) ?_
    refine aqp 4 rfl (by decide +kernel) (by decide) (fun G => w_load1 (v := .int .u64 _) rfl (lk rfl rfl) rfl rfl hx) ?_
    refine Z1m ?_
    refine aqp 6 rfl (by decide +kernel) (by decide) (fun G => w_indexArrN rfl (lk rfl rfl) rfl rfl hk4) ?_
    refine aqp 7 rfl (by decide +kernel) (by decide) (fun G => w_load1 (v := .int .u64 _) rfl (lk rfl rfl) rfl rfl hy) ?_
    refine aq02 8 rfl (by decide +kernel) (by decide) (fun _ => V2.callv (hdo (inl a) (inl b) k _) rfl rfl) ?_
    refine aqp 9 rfl (by decide +kernel) (by decide) (fun G => w_indexArrN rfl (lk rfl rfl) rfl rfl hk4) ?_
    refine aqs 10 rfl (by decide +kernel) (by first | exact fun _ => trivial | exact fun _ => ⟨_, rfl⟩ | exact fun _ => ⟨_, rfl, rfl⟩ | exact fun _ => ⟨_, rfl, rfl, rfl⟩ | exact yet_done (by decide +kernel)) (by rintro _ ⟨⟩) (w_storeP (sz := 1) (v := .int .u64 _) (r' := eWn (fun j => if j < k + 1 then wd (fun n => op (inl a n) (inl b n)) j else wd (inl a) j)) rfl rfl rfl rfl rfl rfl rfl rfl (by show _ ≤ 4; omega) hset) ?_
    refine Z1k ?_
    refine Z7a ?_
    exact ⟨k + 1, by omega, by omega, (by repeat (first | exact Sub.nil | refine Sub.cons (by first | rfl | (simp [get]; done)) ?_)), .refl _ _⟩
  · have : k = 4 := by simp at hc; omega
    subst this
    rw [show eWn (fun j => if j < 4 then wd (fun n => op (inl a n) (inl b n)) j else wd (inl a) j) = eWn (wd fun n => op (inl a n) (inl b n)) from eWn_congr fun j hj => if_pos hj]
    refine Z2 ?_
    refine Z8b ?_
    refine ao2 (by rintro _ ⟨⟩; decide) (V2.callT (words_list (fun n => op (inl a n) (inl b n)) _) rfl rfl) ?_
    exact Z47
theorem set_Join (a b : List Int) (ha : a.length ≤ 9223372036854775807) (hb : b.length ≤ 9223372036854775807) (H : Heap) : ACT Tryz.prog KD 81 [.pl (a.map eInt), .pl (b.map eInt)] H (Ret (.pl ((setop (· || ·) a b).map eInt)) H) := by
  refine ACT.body (N := 8) [.tmp 4] Tryz.func81 rfl rfl rfl (Nat.le_of_ble_eq_true rfl) fun B hB => ?_
  refine Z8i ?_
  refine ao2 (by rintro _ ⟨⟩; decide) (V2.callT (set_put 133 (· || ·) (fun f h k H => set_Join_1 f h k H) a b ha hb _) rfl rfl) ?_
  exact Z47
theorem set_Less (a b : List Int) (ha : a.length ≤ 9223372036854775807) (hb : b.length ≤ 9223372036854775807) (H : Heap) : ACT Tryz.prog KD 40 [.pl (a.map eInt), .pl (b.map eInt)] H (Ret (.pl ((setop (fun x y => x && !y) a b).map eInt)) H) := by
  refine ACT.body (N := 8) [.tmp 4] Tryz.func40 rfl rfl rfl (Nat.le_of_ble_eq_true rfl) fun B hB => ?_
  refine Z8i ?_
  refine ao2 (by rintro _ ⟨⟩; decide) (V2.callT (set_put 90 (fun x y => x && !y) (fun f h k H => set_Less_1 f h k H) a b ha hb _) rfl rfl) ?_
  exact Z47
end Go.Av

namespace Go.Av
open Go.Proofs
set_option maxRecDepth 10000
set_option linter.unusedSimpArgs false
set_option linter.unusedVariables false

theorem inl_step {l : List Int} {k : Nat} {x : Int} {n : Nat} (hx : l[k]? = some x) (hno : inl (l.take k) n = false) : inl (l.take (k + 1)) n = (x == (n : Int)) := by
  rw [inl, take_snoc_get hx, List.any_append, show (l.take k).any (fun y => y == (n : Int)) = inl (l.take k) n from rfl, hno]; simp
theorem ref01_in (l : List Int) (n : Nat) (hl : l.length ≤ 9223372036854775807) (H : Heap) : AC Tryz.prog 98 [.pl (l.map eInt), .int .i64 (n : Int)] H (Ret (.bool (inl l n)) H) := by
  refine AC.body (N := 18) [.tmp 4] Tryz.func98 rfl rfl rfl (Nat.le_of_ble_eq_true rfl) fun B hB => ?_
  refine Z1p ?_
  refine Z1d ?_
  refine aw_loop (G := Nat) (fun k => k ≤ l.length ∧ inl (l.take k) n = false) (fun k => [(0, .pl (l.map eInt)), (1, .int .i64 (n : Int)), (5, .int .i64 (k : Int))]) (fun _ => H ++ []) (fun k => l.length - k) 0 ⟨Nat.zero_le _, rfl⟩ (by repeat (first | exact Sub.nil | refine Sub.cons (by first | rfl | (simp [get]; done)) ?_)) (Fit.refl _ _) ?_
  rintro k ⟨hk, hno⟩
  refine Z6w ?_
  refine aw_cond rfl (fun hc => ?_) (fun hc => ?_)
  · have hlt : k < l.length := by simpa using hc
    obtain ⟨x, hx, hxl⟩ := get_in hlt
    have hr := map_get eInt hx
    have hst := inl_step hx hno
    refine Z8d ?_
    refine Z4f ?_
    refine Za ?_
    refine Z16 ?_
    refine aw_cond rfl (fun hc => ?_) (fun hc => ?_)
    · refine Zh ?_
      rw [show inl l n = true from List.any_eq_true.2 ⟨x, hxl, hc⟩]
      exact Zd
    · refine Z2f ?_
      exact ⟨k + 1, by omega, ⟨by omega, by rw [hst]; exact hc⟩, (by repeat (first | exact Sub.nil | refine Sub.cons (by first | rfl | (simp [get]; done)) ?_)), .refl _ _⟩
  · have : k = l.length := by simp at hc; omega
    subst this
    rw [List.take_length] at hno
    rw [hno]
    exact Z4l

set_option maxHeartbeats 0 in
theorem ref01_Right (l : List Int) (hl : l.length ≤ 9223372036854775807) (H : Heap) : AC Tryz.prog 97 [.pl (l.map eInt)] H (Ret (.bool (sok l)) H) := by
  refine AC.body (N := 38) [.tmp 2] Tryz.func97 rfl rfl rfl (Nat.le_of_ble_eq_true rfl) fun B hB => ?_
  refine Z1p ?_
  refine Z1d ?_
  refine aw_loop (G := Nat) (fun k => k ≤ l.length ∧ ∀ i, i < k → okB l i = true) (fun k => [(0, .pl (l.map eInt)), (3, .int .i64 (k : Int))]) (fun _ => H ++ []) (fun k => l.length - k) 0 ⟨Nat.zero_le _, fun i hi => by omega⟩ (by repeat (first | exact Sub.nil | refine Sub.cons (by first | rfl | (simp [get]; done)) ?_)) (Fit.refl _ _) ?_
  rintro k ⟨hk, hno⟩
  refine Z6w ?_
  refine aw_cond rfl (fun hc => ?_) (fun hc => ?_)
  · have hlt : k < l.length := by simpa using hc
    obtain ⟨x, hx, hxl⟩ := get_in hlt
    have hr := map_get eInt hx
    obtain ⟨m, hm, _⟩ := get_in (l := l) (k := ((k : Int) - 1).toNat) (by omega)
    have hr1 := map_get eInt hm
    have hnd : okB l k = (decide (0 ≤ x) && decide (x < 256) && (decide (k = 0) || decide (m < x))) := by
      rw [okB_get hx]
      cases k with
      | zero => simp
      | succ k =>
        have e : (((k + 1 : Nat) : Int) - 1).toNat = k := by omega
        rw [e] at hm
        simp [hm]
    clear hxl
    refine Z1 ?_
    refine aw_of_out 37 (.bool (!okB l k)) ?_ ?_
    · refine Z6z ?_
      refine Z70 ?_
      refine aq0 4 rfl (by decide +kernel) (by decide) (fun _ => o_lt rfl rfl) ?_
      refine Z8j ?_
      refine aq_split (g := 15) rfl (fun hg5 => ?_) (fun hg5 => ?_)
      · refine aqn0 (g := 15) 6 rfl (by decide +kernel) (by decide) rfl rfl rfl ?_
        refine aqn0 (g := 15) 7 rfl (by decide +kernel) (by decide) rfl rfl rfl ?_
        refine aqn0 (g := 15) 8 rfl (by decide +kernel) (by decide) rfl rfl rfl ?_
        refine aqn0 (g := 15) 9 rfl (by decide +kernel) (by decide) rfl rfl rfl ?_
        refine aqn0 (g := 15) 10 rfl (by decide +kernel) (by decide) rfl rfl rfl ?_
        refine Z8k ?_
        refine Z8l ?_
        refine Z8m ?_
        refine Z8n ?_
        refine Z8o ?_
        refine Z8p ?_
        refine Z8q ?_
        refine Z8r ?_
        refine Z8s ?_
        refine Z8t ?_
        refine Z8u ?_
        refine Z8v ?_
        refine Z8w ?_
        refine Z8x ?_
        refine Z8y ?_
        refine Z8z ?_
        refine Z90 ?_
        exact Z91
      · first | refine aqy0 (g := 15) 6 rfl (by decide +kernel) (by decide) rfl rfl (fun _ => o_move (v := .sl _ _ _ _ _) rfl) ?_ | refine aqy0 (g := 15) 6 rfl (by decide +kernel) (by decide) rfl rfl (fun _ => o_move (v := .pl _) rfl) ?_ | refine aqy0 (g := 15) 6 rfl (by decide +kernel) (by decide) rfl rfl (fun _ => o_move (v := .nsl) rfl) ?_
        refine aqy0 (g := 15) 7 rfl (by decide +kernel) (by decide) rfl rfl (fun _ => o_move (v := .int _ _) rfl) ?_
        refine aqyp (g := 15) 8 rfl (by decide +kernel) (by decide) rfl rfl (fun G => w_indexAddrpN rfl rfl hr rfl) ?_
        refine aqyp (g := 15) 9 rfl (by decide +kernel) (by decide) rfl rfl (fun G => o_load1p (v := .int _ _) rfl hr rfl) ?_
        refine aqy0 (g := 15) 10 rfl (by decide +kernel) (by decide) rfl rfl (fun _ => o_gt rfl rfl) ?_
        refine Z8k ?_
        refine Z8l ?_
        refine aq_split (g := 22) rfl (fun hg12 => ?_) (fun hg12 => ?_)
        · refine Z8m ?_
          refine Z8n ?_
          refine Z8o ?_
          refine Z8p ?_
          refine Z8q ?_
          refine Z8r ?_
          refine Z8s ?_
          refine Z8t ?_
          refine Z8u ?_
          refine Z8v ?_
          refine Z8w ?_
          refine Z8x ?_
          refine Z8y ?_
          refine Z8z ?_
          refine Z90 ?_
          exact Z91
        · refine aqy0 (g := 22) 13 rfl (by decide +kernel) (by decide) rfl rfl (fun _ => o_move (v := .int _ _) rfl) ?_
          refine aqy0 (g := 22) 14 rfl (by decide +kernel) (by decide) rfl rfl (fun _ => o_gt rfl rfl) ?_
          refine aqy0 (g := 22) 15 rfl (by decide +kernel) (by decide) rfl rfl (fun _ => o_move (v := .bool _) rfl) ?_
          refine aq_split (g := 25) rfl (fun hg15 => ?_) (fun hg15 => ?_)
          · first | refine aqy0 (g := 25) 16 rfl (by decide +kernel) (by decide) rfl rfl (fun _ => o_move (v := .sl _ _ _ _ _) rfl) ?_ | refine aqy0 (g := 25) 16 rfl (by decide +kernel) (by decide) rfl rfl (fun _ => o_move (v := .pl _) rfl) ?_ | refine aqy0 (g := 25) 16 rfl (by decide +kernel) (by decide) rfl rfl (fun _ => o_move (v := .nsl) rfl) ?_
            refine aqy0 (g := 25) 17 rfl (by decide +kernel) (by decide) rfl rfl (fun _ => o_move (v := .int _ _) rfl) ?_
            refine aqyp (g := 25) 18 rfl (by decide +kernel) (by decide) rfl rfl (fun G => w_indexAddrpN rfl rfl hr rfl) ?_
            refine aqyp (g := 25) 19 rfl (by decide +kernel) (by decide) rfl rfl (fun G => o_load1p (v := .int _ _) rfl hr rfl) ?_
            first | refine aqy0 (g := 25) 20 rfl (by decide +kernel) (by decide) rfl rfl (fun _ => o_move (v := .sl _ _ _ _ _) rfl) ?_ | refine aqy0 (g := 25) 20 rfl (by decide +kernel) (by decide) rfl rfl (fun _ => o_move (v := .pl _) rfl) ?_ | refine aqy0 (g := 25) 20 rfl (by decide +kernel) (by decide) rfl rfl (fun _ => o_move (v := .nsl) rfl) ?_
            refine aqy0 (g := 25) 21 rfl (by decide +kernel) (by decide) rfl rfl (fun _ => o_move (v := .int _ _) rfl) ?_
            refine aqy0 (g := 25) 22 rfl (by decide +kernel) (by decide) rfl rfl (fun _ => o_sub (r := (k : Int) - 1) rfl rfl (wrap64_ok (by omega) (by omega))) ?_
            refine aqyp (g := 25) 23 rfl (by decide +kernel) (by decide) rfl rfl (fun G => w_indexAddrp rfl rfl (by simp at hg15; omega) hr1 rfl) ?_
            refine aqyp (g := 25) 24 rfl (by decide +kernel) (by decide) rfl rfl (fun G => o_load1p (v := .int _ _) rfl hr1 rfl) ?_
            refine aqy0 (g := 25) 25 rfl (by decide +kernel) (by decide) rfl rfl (fun _ => o_le rfl rfl) ?_
            refine Z92 ?_
            refine Z90 ?_
            exact Z91
          · refine Z93 ?_
            refine aqn0 (g := 25) 17 rfl (by decide +kernel) (by decide) rfl rfl rfl ?_
            refine aqn0 (g := 25) 18 rfl (by decide +kernel) (by decide) rfl rfl rfl ?_
            refine aqn0 (g := 25) 19 rfl (by decide +kernel) (by decide) rfl rfl rfl ?_
            refine aqn0 (g := 25) 20 rfl (by decide +kernel) (by decide) rfl rfl rfl ?_
            refine aqn0 (g := 25) 21 rfl (by decide +kernel) (by decide) rfl rfl rfl ?_
            refine aqn0 (g := 25) 22 rfl (by decide +kernel) (by decide) rfl rfl rfl ?_
            refine aqn0 (g := 25) 23 rfl (by decide +kernel) (by decide) rfl rfl rfl ?_
            refine aqn0 (g := 25) 24 rfl (by decide +kernel) (by decide) rfl rfl rfl ?_
            refine aqn0 (g := 25) 25 rfl (by decide +kernel) (by decide) rfl rfl rfl ?_
            refine Z92 ?_
            refine Z90 ?_
            exact Z91
    refine Z1 ?_
    refine aw_cond rfl (fun hc => ?_) (fun hc => ?_)
    · refine Zh ?_
      rw [sok_false hlt (by simpa using hc)]
      exact Zd
    · refine Z2f ?_
      refine ⟨k + 1, by omega, ⟨by omega, fun i hi => ?_⟩, (by repeat (first | exact Sub.nil | refine Sub.cons (by first | rfl | (simp [get]; done)) ?_)), .refl _ _⟩
      rcases Nat.lt_or_eq_of_le (Nat.le_of_lt_succ hi) with h | h
      · exact hno i h
      · subst h; simpa using hc
  · have : k = l.length := by simp at hc; omega
    subst this
    rw [sok_true hno]
    exact Z4l

def opw (how : Int) (x y : Bool) : Bool := if how = 0 then x || y else if how = 1 then x && y else if how = 2 then x && !y else false
def setP (f : Nat → Bool) (n : Nat) : List Int := ((List.range n).filter f).map fun j : Nat => (j : Int)
theorem setP_step (f : Nat → Bool) (n : Nat) : setP f (n + 1) = setP f n ++ if f n then [(n : Int)] else [] := by
  rw [setP, List.range_succ, List.filter_append, List.map_append, setP]
  congr 1
  cases h : f n <;> simp [h]
theorem setP_len (f : Nat → Bool) (n : Nat) : (setP f n).length ≤ n := by
  rw [setP, List.length_map]
  exact Nat.le_trans (List.length_filter_le _ _) (by simp)
set_option maxHeartbeats 0 in
theorem ref01_Which (a b : List Int) (how : Int) (ha : a.length ≤ 9223372036854775807) (hb : b.length ≤ 9223372036854775807) (H : Heap) : AC Tryz.prog 68 [.pl (a.map eInt), .pl (b.map eInt), .int .i64 how] H (Ret (.pl ((setop (opw how) a b).map eInt)) H) := by
  have hbel : ∀ (n g : Nat) (l : List Int), ∀ o ∈ [AObj.mk g 1 (l.map eInt)], ∀ r ∈ o.rows, AV.bels n r = true := by
    intro n g l o ho r hr
    simp only [List.mem_singleton] at ho
    subst ho
    exact ints_bel _ _ r hr
  refine AC.body (N := 63) [.tmp 6] Tryz.func68 rfl rfl rfl (Nat.le_of_ble_eq_true rfl) fun B hB => ?_
  refine Z40 ?_
  refine Zb ?_
  refine aw_out 18 (.bool (!(sok a && sok b))) ?_ ?_
  · refine Z45 ?_
    refine ao_ret (ref01_Right _ (by assumption) _) rfl (by decide) ?_
    refine Z22 ?_
    refine ao_split rfl rfl (fun hg3 => ?_) (fun hg3 => ?_)
    · refine Z3j ?_
      exact Z94
    · refine Z95 ?_
      refine ao_y rfl rfl (by decide) (V2.call (ref01_Right _ (by assumption) _) rfl) ?_
      refine Z26 ?_
      exact Z94
  refine Z1 ?_
  refine aw_cond rfl (fun hc => ?_) (fun hc => ?_)
  · have hs : (sok a && sok b) = false := by cases h : (sok a && sok b) <;> simp_all
    refine Z43 ?_
    refine aw_nslpl 6 rfl ?_
    refine aw_ret ?_
    rw [show setop (opw how) a b = [] by rw [setop, hs]; rfl]
    exact Zd
  have hs : (sok a && sok b) = true := by cases h : (sok a && sok b) <;> simp_all
  rw [show setop (opw how) a b = setP (fun n => opw how (inl a n) (inl b n)) 256 by rw [setop, hs]; rfl]
  refine Z43 ?_
  refine Z96 ?_
  refine Z58 ?_
  refine aw_loop (G := Nat) (fun n => n ≤ 256) (fun n => [(0, .pl (a.map eInt)), (1, .pl (b.map eInt)), (2, .int .i64 how), (7, .sl (Lid H.length 0) (setP (fun n => opw how (inl a n) (inl b n)) n).length 0 (setP (fun n => opw how (inl a n) (inl b n)) n).length (setP (fun n => opw how (inl a n) (inl b n)) n).length), (8, .int .i64 (n : Int))]) (fun n => H ++ [⟨(setP (fun n => opw how (inl a n) (inl b n)) n).length, 1, (setP (fun n => opw how (inl a n) (inl b n)) n).map eInt⟩]) (fun n => 256 - n) 0 (Nat.zero_le _) (by repeat (first | exact Sub.nil | refine Sub.cons (by first | rfl | (simp [get]; done)) ?_)) (Fit.refl _ _) ?_
  intro n hn
  refine Z1n ?_
  refine aw_cond rfl (fun hc => ?_) (fun hc => ?_)
  · have hn2 : n < 256 := by simp at hc; omega
    have hst := setP_step (fun n => opw how (inl a n) (inl b n)) n
    have hle := setP_len (fun n => opw how (inl a n) (inl b n)) n
    try simp only at hst
    generalize setP (fun n => opw how (inl a n) (inl b n)) n = acc at hst hle
    refine Z8d ?_
    refine Z97 ?_
    refine Z98 ?_
    refine Z97 ?_
    refine Zf ?_
    refine Zg ?_
    refine aw_out 57 (.bool (opw how (inl a n) (inl b n))) ?_ ?_
    · refine Z64 ?_
      refine ao_split rfl rfl (fun hg2 => ?_) (fun hg2 => ?_)
      · refine Z24 ?_
        refine Z24 ?_
        refine ao_split rfl rfl (fun hg4 => ?_) (fun hg4 => ?_)
        · refine Z35 ?_
          refine Z99 ?_
          refine Z9a ?_
          refine Z36 ?_
          refine Z2a ?_
          refine Z35 ?_
          refine Z31 ?_
          refine Z9a ?_
          refine Z9d ?_
          exact Z9e
        · refine Z24 ?_
          refine Z99 ?_
          refine ao_split rfl rfl (fun hg8 => ?_) (fun hg8 => ?_)
          · refine Z9a ?_
            refine Z36 ?_
            refine Z2a ?_
            refine Z35 ?_
            refine Z31 ?_
            refine Z9a ?_
            refine Z9d ?_
            exact Z9e
          · refine Z9f ?_
            refine ao_split rfl rfl (fun hg11 => ?_) (fun hg11 => ?_)
            · refine Z9h ?_
              refine ao_split rfl rfl (fun hg14 => ?_) (fun hg14 => ?_)
              · refine Z24 ?_
                refine Z99 ?_
                refine ao_split rfl rfl (fun hg18 => ?_) (fun hg18 => ?_)
                · refine Z9a ?_
                  refine Z9d ?_
                  exact Z9e
                · refine Z9f ?_
                  refine ao_split rfl rfl (fun hg21 => ?_) (fun hg21 => ?_)
                  · refine Z9h ?_
                    refine ao_split rfl rfl (fun hg24 => ?_) (fun hg24 => ?_)
                    · exact Z9l
                    · exact Z9m
                  · exact Z9o
              · refine Zr ?_
                refine Z99 ?_
                refine Z9f ?_
                refine ao_split rfl rfl (fun hg21 => ?_) (fun hg21 => ?_)
                · refine Z9h ?_
                  refine ao_split rfl rfl (fun hg24 => ?_) (fun hg24 => ?_)
                  · exact Z9l
                  · exact Z9m
                · exact Z9o
            · refine Z9n ?_
              refine Zr ?_
              refine Z99 ?_
              refine Z9f ?_
              refine ao_split rfl rfl (fun hg21 => ?_) (fun hg21 => ?_)
              · refine Z9h ?_
                refine ao_split rfl rfl (fun hg24 => ?_) (fun hg24 => ?_)
                · exact Z9l
                · exact Z9m
              · exact Z9o
      · refine Zs ?_
        refine Z2a ?_
        refine Zr ?_
        refine Z31 ?_
        refine Z9f ?_
        refine ao_split rfl rfl (fun hg11 => ?_) (fun hg11 => ?_)
        · refine Z9h ?_
          refine ao_split rfl rfl (fun hg14 => ?_) (fun hg14 => ?_)
          · refine Z24 ?_
            refine Z99 ?_
            refine ao_split rfl rfl (fun hg18 => ?_) (fun hg18 => ?_)
            · refine Z9a ?_
              refine Z9d ?_
              exact Z9e
            · refine Z9f ?_
              refine ao_split rfl rfl (fun hg21 => ?_) (fun hg21 => ?_)
              · refine Z9h ?_
                refine ao_split rfl rfl (fun hg24 => ?_) (fun hg24 => ?_)
                · exact Z9l
                · exact Z9m
              · exact Z9o
          · refine Zr ?_
            refine Z99 ?_
            refine Z9f ?_
            refine ao_split rfl rfl (fun hg21 => ?_) (fun hg21 => ?_)
            · refine Z9h ?_
              refine ao_split rfl rfl (fun hg24 => ?_) (fun hg24 => ?_)
              · exact Z9l
              · exact Z9m
            · exact Z9o
        · refine Z9n ?_
          refine Zr ?_
          refine Z99 ?_
          refine Z9f ?_
          refine ao_split rfl rfl (fun hg21 => ?_) (fun hg21 => ?_)
          · refine Z9h ?_
            refine ao_split rfl rfl (fun hg24 => ?_) (fun hg24 => ?_)
            · exact Z9l
            · exact Z9m
          · exact Z9o
    refine Z1 ?_
    refine aw_cond rfl (fun hc => ?_) (fun hc => ?_)
    · rw [if_pos hc] at hst
      refine Z8d ?_
      refine Z8e ?_
      refine Z8f ?_
      refine Z8g ?_
      rw [show (acc.map eInt).take acc.length = acc.map eInt from List.take_of_length_le (by simp)]
      refine Z2f ?_
      exact ⟨n + 1, by omega, by omega, by rw [hst, List.length_append]; exact (by repeat (first | exact Sub.nil | refine Sub.cons (by first | rfl | (simp [get]; done)) ?_)), Fit.loc hB (by rw [hst, List.length_append, List.map_append]; rfl) (by repeat (first | exact EBel.nil | refine EBel.cons (by first | rfl | (simp [AV.bel, AV.bels, Lid]; done) | (simp [AV.bel, AV.bels, Lid]; omega)) ?_)) (hbel _ _ _)⟩
    · rw [if_neg (by rw [hc]; simp), List.append_nil] at hst
      refine Z2f ?_
      exact ⟨n + 1, by omega, by omega, by rw [hst]; exact (by repeat (first | exact Sub.nil | refine Sub.cons (by first | rfl | (simp [get]; done)) ?_)), by rw [hst]; exact Fit.refl _ _⟩
  · have : n = 256 := by simp at hc; omega
    subst this
    refine Z8c ?_
    refine Z8a ?_
    refine aw_freezeL (ys := (setP (fun n => opw how (inl a n) (inl b n)) 256).map eInt) 6 rfl rfl rfl rfl (by rw [List.drop_zero, List.take_of_length_le (by simp)]) (by simp) (ints_bel 0 _) ?_
    exact Z8h
end Go.Av

namespace Go.Av
open Go.Proofs
set_option maxRecDepth 10000
set_option linter.unusedSimpArgs false
set_option linter.unusedVariables false

theorem set_Meet_1 (f g : Nat → Bool) (k : Nat) (H : Heap) : AC Tryz.prog 161 [.int .u64 (wd f k : Int), .int .u64 (wd g k : Int)] H (Ret (.int .u64 ((wd (fun n => f n && g n) k : Nat) : Int)) H) := by
  refine AC.body (N := 8) [.tmp 4] Tryz.func161 rfl rfl rfl (Nat.le_of_ble_eq_true rfl) fun B hB => ?_
  refine Z2g ?_
  refine Za ?_
  refine ao1 (by decide) (o_and (r := ((wd (fun n => f n && g n) k : Nat) : Int)) rfl rfl (by rw [u64_and _ _ (wd_lt _ _) (wd_lt _ _), wd_and])) ?_
  exact Ze
theorem set_Meet (a b : List Int) (ha : a.length ≤ 9223372036854775807) (hb : b.length ≤ 9223372036854775807) (H : Heap) : ACT Tryz.prog KD 118 [.pl (a.map eInt), .pl (b.map eInt)] H (Ret (.pl ((setop (· && ·) a b).map eInt)) H) := by
  refine ACT.body (N := 8) [.tmp 4] Tryz.func118 rfl rfl rfl (Nat.le_of_ble_eq_true rfl) fun B hB => ?_
  refine Z8i ?_
  refine ao2 (by rintro _ ⟨⟩; decide) (V2.callT (set_put 161 (· && ·) (fun f h k H => set_Meet_1 f h k H) a b ha hb _) rfl rfl) ?_
  exact Z47
def inI (l : List Int) (n : Int) : Bool := l.any fun x => x == n
theorem inI_step {l : List Int} {k : Nat} {x n : Int} (hx : l[k]? = some x) (hno : inI (l.take k) n = false) : inI (l.take (k + 1)) n = (x == n) := by
  rw [inI, take_snoc_get hx, List.any_append, show (l.take k).any (fun y => y == n) = inI (l.take k) n from rfl, hno]; simp
theorem inI_sok {l : List Int} (h : sok l = true) (n : Int) : inI l n = (decide (0 ≤ n) && decide (n < 256) && inl l n.toNat) := by
  rw [Bool.eq_iff_iff]
  simp only [Bool.and_eq_true, decide_eq_true_eq]
  constructor
  · intro h1
    obtain ⟨x, hx, e⟩ := List.any_eq_true.1 h1
    have e : x = n := by simpa using e
    subst e
    obtain ⟨k, hk, rfl⟩ := List.getElem_of_mem hx
    have hr := sok_get_range h hk
    exact ⟨hr, inl_mem.2 (by rw [Int.toNat_of_nonneg hr.1]; exact hx)⟩
  · rintro ⟨⟨h0, h1⟩, h2⟩
    have := inl_mem.1 h2
    rw [Int.toNat_of_nonneg h0] at this
    exact List.any_eq_true.2 ⟨n, this, by simp⟩
theorem wd_has (f : Nat → Bool) (m : Nat) : ((wd f (m / 64) / 2 ^ (m % 64) % 2 : Nat) == 1) = f m := by
  have h := wd_bit f (m / 64) (m % 64)
  rw [Nat.testBit_eq_decide_div_mod_eq, decide_eq_true (Nat.mod_lt m (by decide)), Bool.true_and, show 64 * (m / 64) + m % 64 = m from Nat.div_add_mod m 64] at h
  rw [← h, Bool.eq_iff_iff]
  simp
end Go.Av

/-
  APPEND ONTO A SLICE THAT DOES NOT BEGIN AT ITS ROW's HEAD (a queue): in place, or into a new row. AND where many ways meet.
-/
namespace Go.Av
section
variable {P : Program} {N : Nat} {B : Base} {Q : Post} {env : Env} {H H0 L : Heap} {ty : TypeId} {ops : Array Oper} {rest : List Oper}
theorem o_appendO {t t' e : TypeId} {x y : Operand} {id off len cap sz bytes : Nat} {agg : Bool} {zs : List AV} {o : AObj} {ys : List (List AV)} [hu : SlI P t e] [NiI P t'] [TyI P e agg sz] [hz : ZcI P e zs] [ByI P e bytes] (hn : zs.length = sz)
    (hx : aev env x = .sl id o.gen off len cap) (hid : H[id]? = some o) (hsz : o.sz = sz) (hlen : off + len ≤ o.rows.length) (hy : Src P N env H y sz ys) (h63 : len + ys.length ≤ 9223372036854775807) (hb : (len + ys.length) * bytes ≤ 140737488355328) (hne : 0 < ys.length) (dst : Option Nat) (pos : String) (after : Array Edge) (guard : Option (Nat × Bool)) :
    AOp P N ⟨dst, .call { callee := .builtin .append, args := #[x, y], argTypes := #[t, t'] }, ty, pos, after, guard⟩ env H
      (fun v H' => ∃ js, (js = o.rows.take off ∨ js = []) ∧ v = .sl id (o.gen + 1) js.length (len + ys.length) (len + ys.length) ∧ H' = H.set id ⟨o.gen + 1, o.sz, js ++ (o.rows.drop off).take len ++ ys⟩) (fun _ _ => False) := by
  intro S a w hc next Q hnext _
  obtain ⟨news, hs⟩ := hy S a w hc
  obtain ⟨s, c, hsl, ok, hcc, hlc, h⟩ := hc.slc hx hid
  have hlt : id < S.length := (List.getElem?_eq_some_iff.1 hsl).1
  have hgen : s.gen = o.gen := ok.gen.symm
  have hssz : s.sz = sz := by rw [← ok.sz]; exact hsz
  have hnl := hs.cells.1
  rw [flat_length hs.wide] at hnl
  generalize hms : (o.rows.drop off).take len = ms
  have hml : ms.length = len := by rw [← hms, List.length_take, List.length_drop]; omega
  have hmg : ∀ i r, ms[i]? = some r → o.rows[off + i]? = some r := by
    intro i r hr
    rw [← hms, List.getElem?_take] at hr
    split at hr
    · rwa [List.getElem?_drop] at hr
    · cases hr
  -- what grows into a new block
  have grown : ∀ (ad : Option Addr) (olds : Array Value), a.eval x = .slice ad len c → c < len + ys.length → (∀ w', w'.heap = w.heap → (Builtin.firstCells sz len (.slice ad len c)).run P w' = .ok olds w') →
      CellsR S w ms.flatten olds → (∀ r ∈ ms, r.length = sz) → Oper.wp P ⟨dst, .call { callee := .builtin .append, args := #[x, y], argTypes := #[t, t'] }, ty, pos, after, guard⟩ a w next Q := by
    intro ad olds he hroom hold hco hwo
    obtain ⟨cap', rest, h1, h2, hr⟩ := run_append_out (P := P) (t := t) (t' := t') (e := e) (ty := ty) (sz := sz) (bytes := bytes) (agg := agg) (zs := zs) hs hold hroom h63 hb
    have hm := Made.drew_alloc w (olds ++ news ++ rest) e
    have hwide : ∀ r ∈ ms ++ ys, r.length = sz := by
      intro r hr
      rcases List.mem_append.1 hr with h | h
      · exact hwo r h
      · exact hs.wide r h
    have hrow0 : RowOK (own S) S w sz (olds ++ news ++ rest) (ms ++ ys) := RowOK.of_cells hwide (by rw [List.flatten_append]; exact hco.append hs.cells)
    have hx' : Ext S w (S.set id ⟨s.gen + 1, s.sz, some w.heap.size⟩) (w.drew.alloc (.cells (olds ++ news ++ rest) e)) := by
      refine ⟨hm.os, hm.tape, hm.output, ⟨by rw [hm.size]; omega, fun b hb' ho => ⟨fun k => ?_, hm.old b hb'⟩, fun b arr ty hb' => ⟨arr, by rw [hm.old b (Array.getElem?_eq_some_iff.1 hb').1]; exact hb', rfl⟩⟩, SExt.bump hsl (by simp)⟩
      obtain ⟨i, si, hi, hpi⟩ := k
      by_cases e1 : id = i
      · subst e1
        rw [List.getElem?_set_self hlt] at hi
        obtain rfl := Option.some.inj hi
        simp at hpi
        omega
      · rw [List.getElem?_set_ne e1] at hi
        exact ho ⟨i, si, hi, hpi⟩
    have hh := hc.heap.move (rows' := ms ++ ys) hid hsl hx' (fun j sj hj hpj => by
        have := own_lt hc.heap ⟨j, sj, hj, hpj⟩
        omega) (fun j sj b' hj _ hpj => hm.old b' (own_lt hc.heap ⟨j, sj, hj, hpj⟩)) hm.new (by rw [hsz]; exact hrow0.mono hx'.stp hx'.slots)
    have hrun : (execOp a.eval ⟨dst, .call { callee := .builtin .append, args := #[x, y], argTypes := #[t, t'] }, ty, pos, after, guard⟩).run P w = .ok (.value (.slice (some ⟨w.heap.size, 0, none⟩) (len + ys.length) cap')) (w.drew.alloc (.cells (olds ++ news ++ rest) e)) := by
      simp [execOp, resolve, invoke, builtin, he, hr]
    unfold Oper.wp
    rw [hrun]
    refine hnext _ _ _ _ _ ⟨[], .inr rfl, rfl, by rw [List.nil_append, hms]⟩ hh hx' ?_
    refine .sl ⟨s.gen + 1, s.sz, some w.heap.size⟩ (List.getElem?_set_self hlt) (by simp [hgen]) rfl fun _ => ⟨cap', by omega, h1, .inr ⟨w.heap.size, _, _, rfl, by simp, hm.new, ?_⟩⟩
    have hol := hco.1
    rw [flat_length hwo] at hol
    simp only [Array.size_append, ← hnl, ← hol, h2, hn, hml, ← Nat.add_mul, Nat.zero_add, List.length_nil]
    rw [hssz]
    exact Nat.mul_le_mul_right _ (by omega)
  rcases h with ⟨h0, ad, he⟩ | ⟨b, arr, et, hp, he, hbl, hfit, hrow⟩
  · have el : len = 0 := by omega
    subst el
    subst h0
    have : ms = [] := List.eq_nil_of_length_eq_zero hml
    subst this
    refine grown ad #[] he (by omega) (fun w' _ => ?_) ⟨by simp, fun _ _ h => by simp at h⟩ (by simp)
    cases ad with
    | none => rfl
    | some ad => simp [Builtin.firstCells, loadCells, loadCellsFrom]
  · have hwa : ∀ r ∈ o.rows, r.length = sz := by
      intro r hr
      obtain ⟨i, hi⟩ := List.mem_iff_getElem?.1 hr
      rw [← hsz]
      exact (hrow.2 i r hi).1
    have hwo : ∀ r ∈ ms, r.length = sz := by
      intro r hr
      obtain ⟨i, hi⟩ := List.mem_iff_getElem?.1 hr
      exact hwa r (List.mem_of_getElem? (hmg i r hi))
    by_cases hroom : len + ys.length ≤ c
    · -- in place
      have hr := run_append_in (P := P) (t := t) (t' := t') (e := e) (ty := ty) (agg := agg) hs (base := some ⟨b, off * o.sz, none⟩) hroom
      generalize hM : off + len = M at hlen
      have hpo : off * o.sz + len * sz = M * sz := by rw [hsz, ← Nat.add_mul, hM]
      have hfit2 : M * sz + news.size ≤ arr.size := by
        rw [← hnl, ← Nat.add_mul]
        rw [hsz] at hfit
        exact Nat.le_trans (Nat.mul_le_mul_right _ (by omega)) hfit
      have hst := run_storeCells_at P b (M * sz) et news.toList 0 arr w hbl (by simpa using hfit2) hs.one
      simp only [Nat.add_zero, Array.length_toList] at hst
      have hsize : (arr.toList.take (M * sz) ++ news.toList ++ arr.toList.drop (M * sz + news.size)).toArray.size = arr.size := by
        simp
        omega
      have ho : own S b := ⟨id, s, hsl, hp⟩
      have hx' : Ext S w (S.set id ⟨s.gen + 1, s.sz, some b⟩) (w.setRow b (arr.toList.take (M * sz) ++ news.toList ++ arr.toList.drop (M * sz + news.size)).toArray) := by
        refine .of_row ho rfl rfl rfl (by simp) (fun k _ hk => setRow_other w b k _ hk) (fun a' t'' h' => ?_) (fun k hk hno k' => ?_) (SExt.bump hsl (by simp))
        · rw [hbl] at h'
          injection h' with h'
          injection h' with h1 h2
          subst h1; subst h2
          exact ⟨_, setRow_heap w b arr _ et (0, 0) hbl, hsize⟩
        · obtain ⟨i, si, hi, hpi⟩ := k'
          by_cases e1 : id = i
          · subst e1
            rw [List.getElem?_set_self hlt] at hi
            obtain rfl := Option.some.inj hi
            simp at hpi
            subst hpi
            exact hno ho
          · rw [List.getElem?_set_ne e1] at hi
            exact hno ⟨i, si, hi, hpi⟩
      have hsplit : o.rows.take M = o.rows.take off ++ ms := by rw [← hM, ← hms, List.take_add]
      have hwt : ∀ r ∈ o.rows.take M, r.length = sz := fun r hr => hwa r (List.mem_of_mem_take hr)
      have hwide : ∀ r ∈ o.rows.take M ++ ys, r.length = sz := by
        intro r hr
        rcases List.mem_append.1 hr with h | h
        · exact hwt r h
        · exact hs.wide r h
      have hrow' : RowOK (own S) S w sz (arr.toList.take (M * sz) ++ news.toList ++ arr.toList.drop (M * sz + news.size)).toArray (o.rows.take M ++ ys) := by
        have e1 : (arr.toList.take (M * sz) ++ news.toList ++ arr.toList.drop (M * sz + news.size)).toArray = (arr.toList.take (M * sz)).toArray ++ news ++ (arr.toList.drop (M * sz + news.size)).toArray := by
          simp
        rw [e1]
        refine RowOK.of_cells hwide ?_
        rw [List.flatten_append]
        refine CellsR.append ?_ hs.cells
        have hl2 : (o.rows.take M).flatten.length = M * sz := by rw [flat_length hwt, List.length_take, Nat.min_eq_left hlen]
        have hle : M * sz ≤ arr.size := by omega
        refine ⟨by rw [hl2]; simp; omega, fun k v hk => ?_⟩
        have hklt : k < M * sz := by rw [← hl2]; exact (List.getElem?_eq_some_iff.1 hk).1
        have hpos : 0 < sz := by rcases Nat.eq_zero_or_pos sz with e | e; · subst e; simp at hklt
                                 · exact e
        have hi : k / sz < (o.rows.take M).length := by rw [List.length_take, Nat.min_eq_left hlen]; exact (Nat.div_lt_iff_lt_mul hpos).2 hklt
        have hj : k % sz < sz := Nat.mod_lt _ hpos
        have hk' : k / sz * sz + k % sz = k := Nat.div_add_mod' k sz
        have h3 := flat_get hwt (List.getElem?_eq_getElem hi) hj
        rw [hk', hk] at h3
        have h4 : o.rows[k / sz]? = some (o.rows.take M)[k / sz] := by
          have := List.getElem?_eq_getElem hi
          rw [List.getElem?_take] at this
          split at this
          · exact this
          · cases this
        obtain ⟨k1, u, k2, k3⟩ := (hrow.2 _ _ h4).2 _ v h3.symm
        rw [hsz, hk'] at k2
        exact ⟨k1, u, by simp [hklt, k2], k3⟩
      have hh := hc.heap.move (rows' := o.rows.take M ++ ys) hid hsl hx' (fun j sj hj hpj => hc.heap.inj j id sj s b hj hsl hpj hp) (fun j sj b' hj hne' hpj => setRow_other w b b' _ (fun e => hne' (hc.heap.inj j id sj s b hj hsl (e ▸ hpj) hp)))
        (setRow_heap w b arr _ et (0, 0) hbl) (by rw [hsz]; exact hrow'.mono hx'.stp hx'.slots)
      have hrun : (execOp a.eval ⟨dst, .call { callee := .builtin .append, args := #[x, y], argTypes := #[t, t'] }, ty, pos, after, guard⟩).run P w = .ok (.value (.slice (some ⟨b, off * o.sz, none⟩) (len + ys.length) c)) (w.setRow b (arr.toList.take (M * sz) ++ news.toList ++ arr.toList.drop (M * sz + news.size)).toArray) := by
        simp only [add_none, hpo, hst] at hr
        simp [execOp, resolve, invoke, builtin, he, hr]
      unfold Oper.wp
      rw [hrun]
      have hol : (o.rows.take off).length = off := by rw [List.length_take]; omega
      refine hnext _ _ _ _ _ ⟨o.rows.take off, .inl rfl, rfl, by rw [hms, ← hsplit]⟩ hh hx' ?_
      refine .sl ⟨s.gen + 1, s.sz, some b⟩ (List.getElem?_set_self hlt) (by simp [hgen]) rfl fun _ => ⟨c, by omega, by omega, .inr ⟨b, _, _, rfl, by simp [hol, hssz, hsz], setRow_heap w b arr _ et (0, 0) hbl, ?_⟩⟩
      rw [hsize, hssz, hol, ← hsz]
      exact hfit
    · -- into a new block
      have hcell : ∀ k, k < len * sz → w.cell? ((⟨b, off * o.sz, none⟩ : Addr).add k) = some ((fun k => arr.getD (off * sz + k) undef) k) := by
        intro k hk
        have : off * sz + k < arr.size := by
          have h1 : (off + len) * o.sz ≤ (off + c) * o.sz := Nat.mul_le_mul_right _ (by omega)
          rw [hsz, Nat.add_mul] at h1
          rw [hsz] at hfit
          omega
        rw [add_none, cell_of_row w b _ arr _ _ hbl, hsz]
        simp [this]
      have hco : CellsR S w ms.flatten ((List.range (ms.length * sz)).map fun k => arr.getD (off * sz + k) undef).toArray := flat_cells hwo fun i r hr j v hv' => by
        obtain ⟨h1, u, h2, h3⟩ := (hrow.2 _ r (hmg i r hr)).2 j v hv'
        refine ⟨h1, ?_⟩
        rw [hsz] at h2
        have e : arr.getD (off * sz + (i * sz + j)) undef = u := by rw [← Nat.add_assoc, ← Nat.add_mul]; simp [h2]
        rw [e]
        exact h3
      rw [hml] at hco
      exact grown (some ⟨b, off * o.sz, none⟩) _ he (by omega) (fun w' hw' => first_cells hcell w' hw') hco hwo
/-- As a walk uses it. -/
theorem ao_appO {t t' e : TypeId} {x y : Operand} {n k g off len cap sz bytes d : Nat} {agg : Bool} {zs : List AV} {o : AObj} {ys : List (List AV)} {pos : String} {after : Array Edge} [hu : SlI P t e] [NiI P t'] [TyI P e agg sz] [hz : ZcI P e zs] [ByI P e bytes]
    (hd : d < N) (hx : aev env x = .sl (Lid n k) g off len cap) (hn : H0.length = n) (hk : L[k]? = some o) (hg : o.gen = g) (hsz : o.sz = sz) (hy : Src P N env (H0 ++ L) y sz ys) (hz' : zs.length = sz) (hlen : off + len ≤ o.rows.length) (hne : 0 < ys.length) (h63 : len + ys.length ≤ 9223372036854775807) (hb : (len + ys.length) * bytes ≤ 140737488355328)
    (h : ∀ js, (js = o.rows.take off ∨ js = []) → AOps P N B ops rest Q ((d, .sl (Lid n k) (g + 1) js.length (len + ys.length) (len + ys.length)) :: env) (H0 ++ L.set k ⟨g + 1, o.sz, js ++ (o.rows.drop off).take len ++ ys⟩)) :
    AOps P N B ops (⟨some d, .call { callee := .builtin .append, args := #[x, y], argTypes := #[t, t'] }, ty, pos, after, none⟩ :: rest) Q env (H0 ++ L) := by
  subst hg
  refine ao_cons rfl (by rintro _ ⟨⟩; exact hd) (o_appendO (agg := agg) (e := e) (zs := zs) (bytes := bytes) hz' hx (lk hn hk) hsz hlen hy h63 hb hne _ _ _ _) ?_ (fun _ _ h => h.elim)
  rintro _ _ ⟨js, hjs, rfl, rfl⟩
  rw [st hn]
  exact h js hjs
end

/-! #### where many ways meet -/
def JoinG (B : Base) {G : Type} (I : G → Prop) (E : G → Env) (M : G → Heap) (Q : Post) : Post
  | .nrm, e, H => ∃ g, I g ∧ Sub (E g) e ∧ Fit B (E g) H (M g)
  | x, e, H => Q x e H
section
variable {P : Program} {N : Nat} {B : Base} {Q : Post} {env : Env} {H : Heap}
theorem aw_joinG {x : Code} {G : Type} (I : G → Prop) (E : G → Env) (M : G → Heap) (h : AWp P N B x (JoinG B I E M Q) env H) (k : ∀ g, I g → Q .nrm (E g) (M g)) : AWp P N B x Q env H := by
  intro S a w hc hb
  refine wp_mono (h S a w hc hb) ?_
  rintro e a' w' ⟨ax, env', H', S', hj, r, c', k'⟩
  cases ax with
  | nrm =>
    cases r
    obtain ⟨g, hi, hs, hf⟩ := hj
    obtain ⟨S2, c2, k2⟩ := (c'.sub hs).fit k' hf
    exact ⟨.nrm, E g, M g, S2, k g hi, .nrm, c2, k2⟩
  | brk i => exact ⟨_, env', H', S', hj, r, c', k'⟩
  | ret => exact ⟨_, env', H', S', hj, r, c', k'⟩
  | pan v => exact ⟨_, env', H', S', hj, r, c', k'⟩
theorem joinG_nrm {G : Type} {I : G → Prop} {E : G → Env} {M : G → Heap} (g : G) (hi : I g) (h1 : Sub (E g) env) (h2 : Fit B (E g) H (M g)) : JoinG B I E M Q .nrm env H := ⟨g, hi, h1, h2⟩
theorem joinG_ret {G : Type} {I : G → Prop} {E : G → Env} {M : G → Heap} (h : Q .ret env H) : JoinG B I E M Q .ret env H := h
theorem joinG_brk {G : Type} {I : G → Prop} {E : G → Env} {M : G → Heap} {i : Nat} (h : Q (.brk i) env H) : JoinG B I E M Q (.brk i) env H := h
end
end Go.Av

