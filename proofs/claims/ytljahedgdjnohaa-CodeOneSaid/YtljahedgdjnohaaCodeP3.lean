/- Parts of the proof: rules for an abstract memory, plain laws, and walks through the program. -/
import Derived.Test.YtljahedgdjnohaaProg
import Derived.KernelRfl
import Derived.Test.YtljahedgdjnohaaCodeP2
import Derived.Laws.StructEq
/-
  WHAT THE PROGRAM's TABLES SAY OF THE TYPES AND FUNCTIONS THAT THE WALKS MEET. Laid by a program of this session's own.
-/
namespace Go.Av
open Go.Proofs
instance ty1 : TyI Try.prog 1 false 1 := ⟨by kernel_rfl, by kernel_rfl⟩
instance no1 : NoI Try.prog 1 := ⟨by kernel_rfl⟩
instance by1 : ByI Try.prog 1 8 := ⟨by kernel_rfl⟩
instance zc1 : ZcI Try.prog 1 [.nfn] := ⟨.nilFunc, by kernel_rfl, rfl, rfl⟩
instance ty2 : TyI Try.prog 2 false 1 := ⟨by kernel_rfl, by kernel_rfl⟩
instance no2 : NoI Try.prog 2 := ⟨by kernel_rfl⟩
instance by2 : ByI Try.prog 2 8 := ⟨by kernel_rfl⟩
instance ud2 : UdI Try.prog 2 (.int .i64) := ⟨by kernel_rfl⟩
instance zc2 : ZcI Try.prog 2 [.int .i64 0] := ⟨.int .i64 0, by kernel_rfl, rfl, rfl⟩
instance ty3 : TyI Try.prog 3 false 1 := ⟨by kernel_rfl, by kernel_rfl⟩
instance no3 : NoI Try.prog 3 := ⟨by kernel_rfl⟩
instance by3 : ByI Try.prog 3 8 := ⟨by kernel_rfl⟩
instance ud3 : UdI Try.prog 3 (.int .i64) := ⟨by kernel_rfl⟩
instance zc3 : ZcI Try.prog 3 [.int .i64 0] := ⟨.int .i64 0, by kernel_rfl, rfl, rfl⟩
instance ty4 : TyI Try.prog 4 false 1 := ⟨by kernel_rfl, by kernel_rfl⟩
instance no4 : NoI Try.prog 4 := ⟨by kernel_rfl⟩
instance by4 : ByI Try.prog 4 1 := ⟨by kernel_rfl⟩
instance ud4 : UdI Try.prog 4 .bool := ⟨by kernel_rfl⟩
instance zc4 : ZcI Try.prog 4 [.bool false] := ⟨.bool false, by kernel_rfl, rfl, rfl⟩
instance ty5 : TyI Try.prog 5 false 1 := ⟨by kernel_rfl, by kernel_rfl⟩
instance no5 : NoI Try.prog 5 := ⟨by kernel_rfl⟩
instance by5 : ByI Try.prog 5 1 := ⟨by kernel_rfl⟩
instance ud5 : UdI Try.prog 5 (.int .u8) := ⟨by kernel_rfl⟩
instance zc5 : ZcI Try.prog 5 [.int .u8 0] := ⟨.int .u8 0, by kernel_rfl, rfl, rfl⟩
instance ty9 : TyI Try.prog 9 false 1 := ⟨by kernel_rfl, by kernel_rfl⟩
instance no9 : NoI Try.prog 9 := ⟨by kernel_rfl⟩
instance by9 : ByI Try.prog 9 16 := ⟨by kernel_rfl⟩
instance ud9 : UdI Try.prog 9 .string := ⟨by kernel_rfl⟩
instance ni9 : NiI Try.prog 9 := ⟨.inr (by kernel_rfl)⟩
instance zc9 : ZcI Try.prog 9 [.str ⟨#[]⟩] := ⟨.string ⟨#[]⟩, by kernel_rfl, rfl, rfl⟩
instance ty12 : TyI Try.prog 12 false 1 := ⟨by kernel_rfl, by kernel_rfl⟩
instance no12 : NoI Try.prog 12 := ⟨by kernel_rfl⟩
instance by12 : ByI Try.prog 12 8 := ⟨by kernel_rfl⟩
instance ud12 : UdI Try.prog 12 (.int .u64) := ⟨by kernel_rfl⟩
instance zc12 : ZcI Try.prog 12 [.int .u64 0] := ⟨.int .u64 0, by kernel_rfl, rfl, rfl⟩
instance ty13 : TyI Try.prog 13 true 2 := ⟨by kernel_rfl, by kernel_rfl⟩
instance no13 : NoI Try.prog 13 := ⟨by kernel_rfl⟩
instance by13 : ByI Try.prog 13 24 := ⟨by kernel_rfl⟩
instance fl13_0 : FldI Try.prog 13 0 0 9 := ⟨by kernel_rfl⟩
instance fl13_1 : FldI Try.prog 13 1 1 12 := ⟨by kernel_rfl⟩
instance st13 : StI Try.prog 13 [(0, 1), (1, 1)] := ⟨by kernel_rfl⟩
instance zc13 : ZcI Try.prog 13 [.str ⟨#[]⟩, .int .u64 0] := ⟨.agg #[.string ⟨#[]⟩, .int .u64 0], by kernel_rfl, rfl, rfl⟩
instance ty20 : TyI Try.prog 20 false 1 := ⟨by kernel_rfl, by kernel_rfl⟩
instance by20 : ByI Try.prog 20 16 := ⟨by kernel_rfl⟩
instance zc20 : ZcI Try.prog 20 [.nifc] := ⟨.nilIface, by kernel_rfl, rfl, rfl⟩
instance ty21 : TyI Try.prog 21 false 1 := ⟨by kernel_rfl, by kernel_rfl⟩
instance no21 : NoI Try.prog 21 := ⟨by kernel_rfl⟩
instance by21 : ByI Try.prog 21 4 := ⟨by kernel_rfl⟩
instance ud21 : UdI Try.prog 21 (.int .i32) := ⟨by kernel_rfl⟩
instance zc21 : ZcI Try.prog 21 [.int .i32 0] := ⟨.int .i32 0, by kernel_rfl, rfl, rfl⟩
instance ty22 : TyI Try.prog 22 true 7 := ⟨by kernel_rfl, by kernel_rfl⟩
instance no22 : NoI Try.prog 22 := ⟨by kernel_rfl⟩
instance by22 : ByI Try.prog 22 64 := ⟨by kernel_rfl⟩
instance fl22_0 : FldI Try.prog 22 0 0 3 := ⟨by kernel_rfl⟩
instance fl22_1 : FldI Try.prog 22 1 1 3 := ⟨by kernel_rfl⟩
instance fl22_2 : FldI Try.prog 22 2 2 3 := ⟨by kernel_rfl⟩
instance fl22_3 : FldI Try.prog 22 3 3 9 := ⟨by kernel_rfl⟩
instance fl22_4 : FldI Try.prog 22 4 4 4 := ⟨by kernel_rfl⟩
instance fl22_5 : FldI Try.prog 22 5 5 2 := ⟨by kernel_rfl⟩
instance fl22_6 : FldI Try.prog 22 6 6 3 := ⟨by kernel_rfl⟩
instance st22 : StI Try.prog 22 [(0, 1), (1, 1), (2, 1), (3, 1), (4, 1), (5, 1), (6, 1)] := ⟨by kernel_rfl⟩
instance zc22 : ZcI Try.prog 22 [.int .i64 0, .int .i64 0, .int .i64 0, .str ⟨#[]⟩, .bool false, .int .i64 0, .int .i64 0] := ⟨.agg #[.int .i64 0, .int .i64 0, .int .i64 0, .string ⟨#[]⟩, .bool false, .int .i64 0, .int .i64 0], by kernel_rfl, rfl, rfl⟩
instance ty23 : TyI Try.prog 23 true 7 := ⟨by kernel_rfl, by kernel_rfl⟩
instance no23 : NoI Try.prog 23 := ⟨by kernel_rfl⟩
instance by23 : ByI Try.prog 23 64 := ⟨by kernel_rfl⟩
instance fl23_0 : FldI Try.prog 23 0 0 3 := ⟨by kernel_rfl⟩
instance fl23_1 : FldI Try.prog 23 1 1 3 := ⟨by kernel_rfl⟩
instance fl23_2 : FldI Try.prog 23 2 2 3 := ⟨by kernel_rfl⟩
instance fl23_3 : FldI Try.prog 23 3 3 9 := ⟨by kernel_rfl⟩
instance fl23_4 : FldI Try.prog 23 4 4 4 := ⟨by kernel_rfl⟩
instance fl23_5 : FldI Try.prog 23 5 5 2 := ⟨by kernel_rfl⟩
instance fl23_6 : FldI Try.prog 23 6 6 3 := ⟨by kernel_rfl⟩
instance st23 : StI Try.prog 23 [(0, 1), (1, 1), (2, 1), (3, 1), (4, 1), (5, 1), (6, 1)] := ⟨by kernel_rfl⟩
instance zc23 : ZcI Try.prog 23 [.int .i64 0, .int .i64 0, .int .i64 0, .str ⟨#[]⟩, .bool false, .int .i64 0, .int .i64 0] := ⟨.agg #[.int .i64 0, .int .i64 0, .int .i64 0, .string ⟨#[]⟩, .bool false, .int .i64 0, .int .i64 0], by kernel_rfl, rfl, rfl⟩
instance ty24 : TyI Try.prog 24 false 1 := ⟨by kernel_rfl, by kernel_rfl⟩
instance no24 : NoI Try.prog 24 := ⟨by kernel_rfl⟩
instance by24 : ByI Try.prog 24 24 := ⟨by kernel_rfl⟩
instance sl24 : SlI Try.prog 24 3 := ⟨by kernel_rfl⟩
instance ni24 : NiI Try.prog 24 := ⟨.inl ⟨3, by kernel_rfl⟩⟩
instance zc24 : ZcI Try.prog 24 [.nsl] := ⟨.slice none 0 0, by kernel_rfl, rfl, rfl⟩
instance ty25 : TyI Try.prog 25 false 1 := ⟨by kernel_rfl, by kernel_rfl⟩
instance no25 : NoI Try.prog 25 := ⟨by kernel_rfl⟩
instance by25 : ByI Try.prog 25 8 := ⟨by kernel_rfl⟩
instance zc25 : ZcI Try.prog 25 [.nfn] := ⟨.nilFunc, by kernel_rfl, rfl, rfl⟩
instance ty26 : TyI Try.prog 26 false 1 := ⟨by kernel_rfl, by kernel_rfl⟩
instance no26 : NoI Try.prog 26 := ⟨by kernel_rfl⟩
instance by26 : ByI Try.prog 26 24 := ⟨by kernel_rfl⟩
instance sl26 : SlI Try.prog 26 28 := ⟨by kernel_rfl⟩
instance ni26 : NiI Try.prog 26 := ⟨.inl ⟨28, by kernel_rfl⟩⟩
instance zc26 : ZcI Try.prog 26 [.nsl] := ⟨.slice none 0 0, by kernel_rfl, rfl, rfl⟩
instance ty27 : TyI Try.prog 27 true 14 := ⟨by kernel_rfl, by kernel_rfl⟩
instance no27 : NoI Try.prog 27 := ⟨by kernel_rfl⟩
instance by27 : ByI Try.prog 27 128 := ⟨by kernel_rfl⟩
instance ar27 : ArI Try.prog 27 2 23 := ⟨by kernel_rfl⟩
instance zc27 : ZcI Try.prog 27 [.int .i64 0, .int .i64 0, .int .i64 0, .str ⟨#[]⟩, .bool false, .int .i64 0, .int .i64 0, .int .i64 0, .int .i64 0, .int .i64 0, .str ⟨#[]⟩, .bool false, .int .i64 0, .int .i64 0] := ⟨.agg #[.int .i64 0, .int .i64 0, .int .i64 0, .string ⟨#[]⟩, .bool false, .int .i64 0, .int .i64 0, .int .i64 0, .int .i64 0, .int .i64 0, .string ⟨#[]⟩, .bool false, .int .i64 0, .int .i64 0], by kernel_rfl, rfl, rfl⟩
instance ty28 : TyI Try.prog 28 false 1 := ⟨by kernel_rfl, by kernel_rfl⟩
instance no28 : NoI Try.prog 28 := ⟨by kernel_rfl⟩
instance by28 : ByI Try.prog 28 24 := ⟨by kernel_rfl⟩
instance sl28 : SlI Try.prog 28 5 := ⟨by kernel_rfl⟩
instance ni28 : NiI Try.prog 28 := ⟨.inl ⟨5, by kernel_rfl⟩⟩
instance zc28 : ZcI Try.prog 28 [.nsl] := ⟨.slice none 0 0, by kernel_rfl, rfl, rfl⟩
instance ty29 : TyI Try.prog 29 false 1 := ⟨by kernel_rfl, by kernel_rfl⟩
instance no29 : NoI Try.prog 29 := ⟨by kernel_rfl⟩
instance by29 : ByI Try.prog 29 8 := ⟨by kernel_rfl⟩
instance ud29 : UdI Try.prog 29 (.int .i64) := ⟨by kernel_rfl⟩
instance zc29 : ZcI Try.prog 29 [.int .i64 0] := ⟨.int .i64 0, by kernel_rfl, rfl, rfl⟩
instance ty31 : TyI Try.prog 31 false 1 := ⟨by kernel_rfl, by kernel_rfl⟩
instance no31 : NoI Try.prog 31 := ⟨by kernel_rfl⟩
instance by31 : ByI Try.prog 31 8 := ⟨by kernel_rfl⟩
instance zc31 : ZcI Try.prog 31 [.nfn] := ⟨.nilFunc, by kernel_rfl, rfl, rfl⟩
instance ty32 : TyI Try.prog 32 true 2 := ⟨by kernel_rfl, by kernel_rfl⟩
instance no32 : NoI Try.prog 32 := ⟨by kernel_rfl⟩
instance by32 : ByI Try.prog 32 48 := ⟨by kernel_rfl⟩
instance ar32 : ArI Try.prog 32 2 24 := ⟨by kernel_rfl⟩
instance zc32 : ZcI Try.prog 32 [.nsl, .nsl] := ⟨.agg #[.slice none 0 0, .slice none 0 0], by kernel_rfl, rfl, rfl⟩
instance ty33 : TyI Try.prog 33 false 1 := ⟨by kernel_rfl, by kernel_rfl⟩
instance no33 : NoI Try.prog 33 := ⟨by kernel_rfl⟩
instance by33 : ByI Try.prog 33 8 := ⟨by kernel_rfl⟩
instance zc33 : ZcI Try.prog 33 [.nfn] := ⟨.nilFunc, by kernel_rfl, rfl, rfl⟩
instance ty34 : TyI Try.prog 34 false 1 := ⟨by kernel_rfl, by kernel_rfl⟩
instance no34 : NoI Try.prog 34 := ⟨by kernel_rfl⟩
instance by34 : ByI Try.prog 34 8 := ⟨by kernel_rfl⟩
instance zc34 : ZcI Try.prog 34 [.nfn] := ⟨.nilFunc, by kernel_rfl, rfl, rfl⟩
instance ty35 : TyI Try.prog 35 false 1 := ⟨by kernel_rfl, by kernel_rfl⟩
instance no35 : NoI Try.prog 35 := ⟨by kernel_rfl⟩
instance by35 : ByI Try.prog 35 8 := ⟨by kernel_rfl⟩
instance zc35 : ZcI Try.prog 35 [.nfn] := ⟨.nilFunc, by kernel_rfl, rfl, rfl⟩
instance ty36 : TyI Try.prog 36 false 1 := ⟨by kernel_rfl, by kernel_rfl⟩
instance no36 : NoI Try.prog 36 := ⟨by kernel_rfl⟩
instance by36 : ByI Try.prog 36 8 := ⟨by kernel_rfl⟩
instance zc36 : ZcI Try.prog 36 [.nfn] := ⟨.nilFunc, by kernel_rfl, rfl, rfl⟩
instance ty38 : TyI Try.prog 38 false 1 := ⟨by kernel_rfl, by kernel_rfl⟩
instance no38 : NoI Try.prog 38 := ⟨by kernel_rfl⟩
instance by38 : ByI Try.prog 38 8 := ⟨by kernel_rfl⟩
instance zc38 : ZcI Try.prog 38 [.nfn] := ⟨.nilFunc, by kernel_rfl, rfl, rfl⟩
instance ty39 : TyI Try.prog 39 false 1 := ⟨by kernel_rfl, by kernel_rfl⟩
instance no39 : NoI Try.prog 39 := ⟨by kernel_rfl⟩
instance by39 : ByI Try.prog 39 8 := ⟨by kernel_rfl⟩
instance zc39 : ZcI Try.prog 39 [.nfn] := ⟨.nilFunc, by kernel_rfl, rfl, rfl⟩
instance ty40 : TyI Try.prog 40 false 1 := ⟨by kernel_rfl, by kernel_rfl⟩
instance no40 : NoI Try.prog 40 := ⟨by kernel_rfl⟩
instance by40 : ByI Try.prog 40 8 := ⟨by kernel_rfl⟩
instance zc40 : ZcI Try.prog 40 [.nfn] := ⟨.nilFunc, by kernel_rfl, rfl, rfl⟩
instance ty41 : TyI Try.prog 41 false 1 := ⟨by kernel_rfl, by kernel_rfl⟩
instance no41 : NoI Try.prog 41 := ⟨by kernel_rfl⟩
instance by41 : ByI Try.prog 41 8 := ⟨by kernel_rfl⟩
instance zc41 : ZcI Try.prog 41 [.nfn] := ⟨.nilFunc, by kernel_rfl, rfl, rfl⟩
instance ty42 : TyI Try.prog 42 false 1 := ⟨by kernel_rfl, by kernel_rfl⟩
instance no42 : NoI Try.prog 42 := ⟨by kernel_rfl⟩
instance by42 : ByI Try.prog 42 8 := ⟨by kernel_rfl⟩
instance zc42 : ZcI Try.prog 42 [.nfn] := ⟨.nilFunc, by kernel_rfl, rfl, rfl⟩
instance ty43 : TyI Try.prog 43 false 1 := ⟨by kernel_rfl, by kernel_rfl⟩
instance no43 : NoI Try.prog 43 := ⟨by kernel_rfl⟩
instance by43 : ByI Try.prog 43 8 := ⟨by kernel_rfl⟩
instance zc43 : ZcI Try.prog 43 [.nfn] := ⟨.nilFunc, by kernel_rfl, rfl, rfl⟩
instance ty45 : TyI Try.prog 45 false 1 := ⟨by kernel_rfl, by kernel_rfl⟩
instance no45 : NoI Try.prog 45 := ⟨by kernel_rfl⟩
instance by45 : ByI Try.prog 45 8 := ⟨by kernel_rfl⟩
instance zc45 : ZcI Try.prog 45 [.nfn] := ⟨.nilFunc, by kernel_rfl, rfl, rfl⟩
instance ty46 : TyI Try.prog 46 false 1 := ⟨by kernel_rfl, by kernel_rfl⟩
instance no46 : NoI Try.prog 46 := ⟨by kernel_rfl⟩
instance by46 : ByI Try.prog 46 8 := ⟨by kernel_rfl⟩
instance zc46 : ZcI Try.prog 46 [.nfn] := ⟨.nilFunc, by kernel_rfl, rfl, rfl⟩
instance ty48 : TyI Try.prog 48 false 1 := ⟨by kernel_rfl, by kernel_rfl⟩
instance no48 : NoI Try.prog 48 := ⟨by kernel_rfl⟩
instance by48 : ByI Try.prog 48 8 := ⟨by kernel_rfl⟩
instance zc48 : ZcI Try.prog 48 [.nfn] := ⟨.nilFunc, by kernel_rfl, rfl, rfl⟩
instance ty50 : TyI Try.prog 50 false 1 := ⟨by kernel_rfl, by kernel_rfl⟩
instance no50 : NoI Try.prog 50 := ⟨by kernel_rfl⟩
instance by50 : ByI Try.prog 50 8 := ⟨by kernel_rfl⟩
instance zc50 : ZcI Try.prog 50 [.nfn] := ⟨.nilFunc, by kernel_rfl, rfl, rfl⟩
instance ty51 : TyI Try.prog 51 false 1 := ⟨by kernel_rfl, by kernel_rfl⟩
instance no51 : NoI Try.prog 51 := ⟨by kernel_rfl⟩
instance by51 : ByI Try.prog 51 8 := ⟨by kernel_rfl⟩
instance zc51 : ZcI Try.prog 51 [.nfn] := ⟨.nilFunc, by kernel_rfl, rfl, rfl⟩
instance ty52 : TyI Try.prog 52 false 1 := ⟨by kernel_rfl, by kernel_rfl⟩
instance no52 : NoI Try.prog 52 := ⟨by kernel_rfl⟩
instance by52 : ByI Try.prog 52 8 := ⟨by kernel_rfl⟩
instance zc52 : ZcI Try.prog 52 [.nfn] := ⟨.nilFunc, by kernel_rfl, rfl, rfl⟩
instance ty53 : TyI Try.prog 53 false 1 := ⟨by kernel_rfl, by kernel_rfl⟩
instance no53 : NoI Try.prog 53 := ⟨by kernel_rfl⟩
instance by53 : ByI Try.prog 53 8 := ⟨by kernel_rfl⟩
instance zc53 : ZcI Try.prog 53 [.nfn] := ⟨.nilFunc, by kernel_rfl, rfl, rfl⟩
instance ty54 : TyI Try.prog 54 false 1 := ⟨by kernel_rfl, by kernel_rfl⟩
instance no54 : NoI Try.prog 54 := ⟨by kernel_rfl⟩
instance by54 : ByI Try.prog 54 8 := ⟨by kernel_rfl⟩
instance zc54 : ZcI Try.prog 54 [.nfn] := ⟨.nilFunc, by kernel_rfl, rfl, rfl⟩
instance ty55 : TyI Try.prog 55 false 1 := ⟨by kernel_rfl, by kernel_rfl⟩
instance no55 : NoI Try.prog 55 := ⟨by kernel_rfl⟩
instance by55 : ByI Try.prog 55 8 := ⟨by kernel_rfl⟩
instance ud55 : UdI Try.prog 55 (.int .u64) := ⟨by kernel_rfl⟩
instance zc55 : ZcI Try.prog 55 [.int .u64 0] := ⟨.int .u64 0, by kernel_rfl, rfl, rfl⟩
instance ty56 : TyI Try.prog 56 false 1 := ⟨by kernel_rfl, by kernel_rfl⟩
instance no56 : NoI Try.prog 56 := ⟨by kernel_rfl⟩
instance by56 : ByI Try.prog 56 8 := ⟨by kernel_rfl⟩
instance zc56 : ZcI Try.prog 56 [.nfn] := ⟨.nilFunc, by kernel_rfl, rfl, rfl⟩
instance ty57 : TyI Try.prog 57 false 1 := ⟨by kernel_rfl, by kernel_rfl⟩
instance no57 : NoI Try.prog 57 := ⟨by kernel_rfl⟩
instance by57 : ByI Try.prog 57 8 := ⟨by kernel_rfl⟩
instance zc57 : ZcI Try.prog 57 [.nfn] := ⟨.nilFunc, by kernel_rfl, rfl, rfl⟩
instance ty58 : TyI Try.prog 58 false 1 := ⟨by kernel_rfl, by kernel_rfl⟩
instance no58 : NoI Try.prog 58 := ⟨by kernel_rfl⟩
instance by58 : ByI Try.prog 58 24 := ⟨by kernel_rfl⟩
instance sl58 : SlI Try.prog 58 60 := ⟨by kernel_rfl⟩
instance ni58 : NiI Try.prog 58 := ⟨.inl ⟨60, by kernel_rfl⟩⟩
instance zc58 : ZcI Try.prog 58 [.nsl] := ⟨.slice none 0 0, by kernel_rfl, rfl, rfl⟩
instance ty59 : TyI Try.prog 59 false 1 := ⟨by kernel_rfl, by kernel_rfl⟩
instance no59 : NoI Try.prog 59 := ⟨by kernel_rfl⟩
instance by59 : ByI Try.prog 59 8 := ⟨by kernel_rfl⟩
instance zc59 : ZcI Try.prog 59 [.nfn] := ⟨.nilFunc, by kernel_rfl, rfl, rfl⟩
instance ty60 : TyI Try.prog 60 true 2 := ⟨by kernel_rfl, by kernel_rfl⟩
instance no60 : NoI Try.prog 60 := ⟨by kernel_rfl⟩
instance by60 : ByI Try.prog 60 16 := ⟨by kernel_rfl⟩
instance ar60 : ArI Try.prog 60 2 3 := ⟨by kernel_rfl⟩
instance zc60 : ZcI Try.prog 60 [.int .i64 0, .int .i64 0] := ⟨.agg #[.int .i64 0, .int .i64 0], by kernel_rfl, rfl, rfl⟩
instance ty61 : TyI Try.prog 61 false 1 := ⟨by kernel_rfl, by kernel_rfl⟩
instance no61 : NoI Try.prog 61 := ⟨by kernel_rfl⟩
instance by61 : ByI Try.prog 61 8 := ⟨by kernel_rfl⟩
instance zc61 : ZcI Try.prog 61 [.nfn] := ⟨.nilFunc, by kernel_rfl, rfl, rfl⟩
instance ty62 : TyI Try.prog 62 false 1 := ⟨by kernel_rfl, by kernel_rfl⟩
instance no62 : NoI Try.prog 62 := ⟨by kernel_rfl⟩
instance by62 : ByI Try.prog 62 8 := ⟨by kernel_rfl⟩
instance zc62 : ZcI Try.prog 62 [.nfn] := ⟨.nilFunc, by kernel_rfl, rfl, rfl⟩
instance ty64 : TyI Try.prog 64 false 1 := ⟨by kernel_rfl, by kernel_rfl⟩
instance no64 : NoI Try.prog 64 := ⟨by kernel_rfl⟩
instance by64 : ByI Try.prog 64 8 := ⟨by kernel_rfl⟩
instance zc64 : ZcI Try.prog 64 [.nfn] := ⟨.nilFunc, by kernel_rfl, rfl, rfl⟩
instance ty66 : TyI Try.prog 66 false 1 := ⟨by kernel_rfl, by kernel_rfl⟩
instance no66 : NoI Try.prog 66 := ⟨by kernel_rfl⟩
instance by66 : ByI Try.prog 66 8 := ⟨by kernel_rfl⟩
instance zc66 : ZcI Try.prog 66 [.nfn] := ⟨.nilFunc, by kernel_rfl, rfl, rfl⟩
instance ty67 : TyI Try.prog 67 false 1 := ⟨by kernel_rfl, by kernel_rfl⟩
instance no67 : NoI Try.prog 67 := ⟨by kernel_rfl⟩
instance by67 : ByI Try.prog 67 8 := ⟨by kernel_rfl⟩
instance zc67 : ZcI Try.prog 67 [.nfn] := ⟨.nilFunc, by kernel_rfl, rfl, rfl⟩
instance ty68 : TyI Try.prog 68 false 1 := ⟨by kernel_rfl, by kernel_rfl⟩
instance no68 : NoI Try.prog 68 := ⟨by kernel_rfl⟩
instance by68 : ByI Try.prog 68 8 := ⟨by kernel_rfl⟩
instance zc68 : ZcI Try.prog 68 [.nfn] := ⟨.nilFunc, by kernel_rfl, rfl, rfl⟩
instance ty69 : TyI Try.prog 69 false 1 := ⟨by kernel_rfl, by kernel_rfl⟩
instance no69 : NoI Try.prog 69 := ⟨by kernel_rfl⟩
instance by69 : ByI Try.prog 69 8 := ⟨by kernel_rfl⟩
instance zc69 : ZcI Try.prog 69 [.nfn] := ⟨.nilFunc, by kernel_rfl, rfl, rfl⟩
instance ty70 : TyI Try.prog 70 false 1 := ⟨by kernel_rfl, by kernel_rfl⟩
instance no70 : NoI Try.prog 70 := ⟨by kernel_rfl⟩
instance by70 : ByI Try.prog 70 8 := ⟨by kernel_rfl⟩
instance zc70 : ZcI Try.prog 70 [.nfn] := ⟨.nilFunc, by kernel_rfl, rfl, rfl⟩
instance ty71 : TyI Try.prog 71 false 1 := ⟨by kernel_rfl, by kernel_rfl⟩
instance no71 : NoI Try.prog 71 := ⟨by kernel_rfl⟩
instance by71 : ByI Try.prog 71 8 := ⟨by kernel_rfl⟩
instance zc71 : ZcI Try.prog 71 [.nptr] := ⟨.pointer none, by kernel_rfl, rfl, rfl⟩
instance ty72 : TyI Try.prog 72 false 1 := ⟨by kernel_rfl, by kernel_rfl⟩
instance no72 : NoI Try.prog 72 := ⟨by kernel_rfl⟩
instance by72 : ByI Try.prog 72 8 := ⟨by kernel_rfl⟩
instance zc72 : ZcI Try.prog 72 [.nfn] := ⟨.nilFunc, by kernel_rfl, rfl, rfl⟩
instance ty73 : TyI Try.prog 73 false 1 := ⟨by kernel_rfl, by kernel_rfl⟩
instance no73 : NoI Try.prog 73 := ⟨by kernel_rfl⟩
instance by73 : ByI Try.prog 73 8 := ⟨by kernel_rfl⟩
instance zc73 : ZcI Try.prog 73 [.nfn] := ⟨.nilFunc, by kernel_rfl, rfl, rfl⟩
instance ty74 : TyI Try.prog 74 true 4 := ⟨by kernel_rfl, by kernel_rfl⟩
instance no74 : NoI Try.prog 74 := ⟨by kernel_rfl⟩
instance by74 : ByI Try.prog 74 32 := ⟨by kernel_rfl⟩
instance ar74 : ArI Try.prog 74 4 55 := ⟨by kernel_rfl⟩
instance zc74 : ZcI Try.prog 74 [.int .u64 0, .int .u64 0, .int .u64 0, .int .u64 0] := ⟨.agg #[.int .u64 0, .int .u64 0, .int .u64 0, .int .u64 0], by kernel_rfl, rfl, rfl⟩
instance ty75 : TyI Try.prog 75 true 4 := ⟨by kernel_rfl, by kernel_rfl⟩
instance no75 : NoI Try.prog 75 := ⟨by kernel_rfl⟩
instance by75 : ByI Try.prog 75 32 := ⟨by kernel_rfl⟩
instance ar75 : ArI Try.prog 75 4 55 := ⟨by kernel_rfl⟩
instance zc75 : ZcI Try.prog 75 [.int .u64 0, .int .u64 0, .int .u64 0, .int .u64 0] := ⟨.agg #[.int .u64 0, .int .u64 0, .int .u64 0, .int .u64 0], by kernel_rfl, rfl, rfl⟩
instance ty77 : TyI Try.prog 77 false 1 := ⟨by kernel_rfl, by kernel_rfl⟩
instance no77 : NoI Try.prog 77 := ⟨by kernel_rfl⟩
instance by77 : ByI Try.prog 77 8 := ⟨by kernel_rfl⟩
instance zc77 : ZcI Try.prog 77 [.nfn] := ⟨.nilFunc, by kernel_rfl, rfl, rfl⟩
instance ty78 : TyI Try.prog 78 false 1 := ⟨by kernel_rfl, by kernel_rfl⟩
instance no78 : NoI Try.prog 78 := ⟨by kernel_rfl⟩
instance by78 : ByI Try.prog 78 8 := ⟨by kernel_rfl⟩
instance zc78 : ZcI Try.prog 78 [.nfn] := ⟨.nilFunc, by kernel_rfl, rfl, rfl⟩
instance ty79 : TyI Try.prog 79 false 1 := ⟨by kernel_rfl, by kernel_rfl⟩
instance no79 : NoI Try.prog 79 := ⟨by kernel_rfl⟩
instance by79 : ByI Try.prog 79 8 := ⟨by kernel_rfl⟩
instance zc79 : ZcI Try.prog 79 [.nfn] := ⟨.nilFunc, by kernel_rfl, rfl, rfl⟩
instance ty80 : TyI Try.prog 80 false 1 := ⟨by kernel_rfl, by kernel_rfl⟩
instance no80 : NoI Try.prog 80 := ⟨by kernel_rfl⟩
instance by80 : ByI Try.prog 80 8 := ⟨by kernel_rfl⟩
instance zc80 : ZcI Try.prog 80 [.nfn] := ⟨.nilFunc, by kernel_rfl, rfl, rfl⟩
instance ty81 : TyI Try.prog 81 false 1 := ⟨by kernel_rfl, by kernel_rfl⟩
instance no81 : NoI Try.prog 81 := ⟨by kernel_rfl⟩
instance by81 : ByI Try.prog 81 8 := ⟨by kernel_rfl⟩
instance zc81 : ZcI Try.prog 81 [.nfn] := ⟨.nilFunc, by kernel_rfl, rfl, rfl⟩
instance ty82 : TyI Try.prog 82 false 1 := ⟨by kernel_rfl, by kernel_rfl⟩
instance no82 : NoI Try.prog 82 := ⟨by kernel_rfl⟩
instance by82 : ByI Try.prog 82 8 := ⟨by kernel_rfl⟩
instance zc82 : ZcI Try.prog 82 [.nfn] := ⟨.nilFunc, by kernel_rfl, rfl, rfl⟩
instance ty83 : TyI Try.prog 83 false 1 := ⟨by kernel_rfl, by kernel_rfl⟩
instance no83 : NoI Try.prog 83 := ⟨by kernel_rfl⟩
instance by83 : ByI Try.prog 83 8 := ⟨by kernel_rfl⟩
instance zc83 : ZcI Try.prog 83 [.nfn] := ⟨.nilFunc, by kernel_rfl, rfl, rfl⟩
instance ty84 : TyI Try.prog 84 false 1 := ⟨by kernel_rfl, by kernel_rfl⟩
instance no84 : NoI Try.prog 84 := ⟨by kernel_rfl⟩
instance by84 : ByI Try.prog 84 8 := ⟨by kernel_rfl⟩
instance ud84 : UdI Try.prog 84 (.int .u64) := ⟨by kernel_rfl⟩
instance zc84 : ZcI Try.prog 84 [.int .u64 0] := ⟨.int .u64 0, by kernel_rfl, rfl, rfl⟩
instance ty86 : TyI Try.prog 86 false 1 := ⟨by kernel_rfl, by kernel_rfl⟩
instance no86 : NoI Try.prog 86 := ⟨by kernel_rfl⟩
instance by86 : ByI Try.prog 86 8 := ⟨by kernel_rfl⟩
instance zc86 : ZcI Try.prog 86 [.nfn] := ⟨.nilFunc, by kernel_rfl, rfl, rfl⟩
instance ty88 : TyI Try.prog 88 false 1 := ⟨by kernel_rfl, by kernel_rfl⟩
instance no88 : NoI Try.prog 88 := ⟨by kernel_rfl⟩
instance by88 : ByI Try.prog 88 8 := ⟨by kernel_rfl⟩
instance zc88 : ZcI Try.prog 88 [.nfn] := ⟨.nilFunc, by kernel_rfl, rfl, rfl⟩
instance ty89 : TyI Try.prog 89 false 1 := ⟨by kernel_rfl, by kernel_rfl⟩
instance no89 : NoI Try.prog 89 := ⟨by kernel_rfl⟩
instance by89 : ByI Try.prog 89 8 := ⟨by kernel_rfl⟩
instance zc89 : ZcI Try.prog 89 [.nfn] := ⟨.nilFunc, by kernel_rfl, rfl, rfl⟩
instance ty90 : TyI Try.prog 90 false 1 := ⟨by kernel_rfl, by kernel_rfl⟩
instance no90 : NoI Try.prog 90 := ⟨by kernel_rfl⟩
instance by90 : ByI Try.prog 90 8 := ⟨by kernel_rfl⟩
instance zc90 : ZcI Try.prog 90 [.nfn] := ⟨.nilFunc, by kernel_rfl, rfl, rfl⟩
instance ty91 : TyI Try.prog 91 false 1 := ⟨by kernel_rfl, by kernel_rfl⟩
instance no91 : NoI Try.prog 91 := ⟨by kernel_rfl⟩
instance by91 : ByI Try.prog 91 8 := ⟨by kernel_rfl⟩
instance zc91 : ZcI Try.prog 91 [.nfn] := ⟨.nilFunc, by kernel_rfl, rfl, rfl⟩
instance ty92 : TyI Try.prog 92 true 1 := ⟨by kernel_rfl, by kernel_rfl⟩
instance no92 : NoI Try.prog 92 := ⟨by kernel_rfl⟩
instance by92 : ByI Try.prog 92 24 := ⟨by kernel_rfl⟩
instance fl92_0 : FldI Try.prog 92 0 0 28 := ⟨by kernel_rfl⟩
instance st92 : StI Try.prog 92 [(0, 1)] := ⟨by kernel_rfl⟩
instance zc92 : ZcI Try.prog 92 [.nsl] := ⟨.agg #[.slice none 0 0], by kernel_rfl, rfl, rfl⟩
instance ty93 : TyI Try.prog 93 true 1 := ⟨by kernel_rfl, by kernel_rfl⟩
instance no93 : NoI Try.prog 93 := ⟨by kernel_rfl⟩
instance by93 : ByI Try.prog 93 24 := ⟨by kernel_rfl⟩
instance fl93_0 : FldI Try.prog 93 0 0 28 := ⟨by kernel_rfl⟩
instance st93 : StI Try.prog 93 [(0, 1)] := ⟨by kernel_rfl⟩
instance zc93 : ZcI Try.prog 93 [.nsl] := ⟨.agg #[.slice none 0 0], by kernel_rfl, rfl, rfl⟩
instance ty94 : TyI Try.prog 94 false 1 := ⟨by kernel_rfl, by kernel_rfl⟩
instance no94 : NoI Try.prog 94 := ⟨by kernel_rfl⟩
instance by94 : ByI Try.prog 94 8 := ⟨by kernel_rfl⟩
instance zc94 : ZcI Try.prog 94 [.nfn] := ⟨.nilFunc, by kernel_rfl, rfl, rfl⟩
instance ty95 : TyI Try.prog 95 false 1 := ⟨by kernel_rfl, by kernel_rfl⟩
instance no95 : NoI Try.prog 95 := ⟨by kernel_rfl⟩
instance by95 : ByI Try.prog 95 8 := ⟨by kernel_rfl⟩
instance zc95 : ZcI Try.prog 95 [.nfn] := ⟨.nilFunc, by kernel_rfl, rfl, rfl⟩
instance ty96 : TyI Try.prog 96 false 1 := ⟨by kernel_rfl, by kernel_rfl⟩
instance no96 : NoI Try.prog 96 := ⟨by kernel_rfl⟩
instance by96 : ByI Try.prog 96 8 := ⟨by kernel_rfl⟩
instance zc96 : ZcI Try.prog 96 [.nfn] := ⟨.nilFunc, by kernel_rfl, rfl, rfl⟩
instance ty98 : TyI Try.prog 98 false 1 := ⟨by kernel_rfl, by kernel_rfl⟩
instance no98 : NoI Try.prog 98 := ⟨by kernel_rfl⟩
instance by98 : ByI Try.prog 98 8 := ⟨by kernel_rfl⟩
instance zc98 : ZcI Try.prog 98 [.nfn] := ⟨.nilFunc, by kernel_rfl, rfl, rfl⟩
instance ty99 : TyI Try.prog 99 false 1 := ⟨by kernel_rfl, by kernel_rfl⟩
instance no99 : NoI Try.prog 99 := ⟨by kernel_rfl⟩
instance by99 : ByI Try.prog 99 8 := ⟨by kernel_rfl⟩
instance zc99 : ZcI Try.prog 99 [.nfn] := ⟨.nilFunc, by kernel_rfl, rfl, rfl⟩
instance ty100 : TyI Try.prog 100 false 1 := ⟨by kernel_rfl, by kernel_rfl⟩
instance no100 : NoI Try.prog 100 := ⟨by kernel_rfl⟩
instance by100 : ByI Try.prog 100 8 := ⟨by kernel_rfl⟩
instance zc100 : ZcI Try.prog 100 [.nfn] := ⟨.nilFunc, by kernel_rfl, rfl, rfl⟩
instance ty101 : TyI Try.prog 101 false 1 := ⟨by kernel_rfl, by kernel_rfl⟩
instance no101 : NoI Try.prog 101 := ⟨by kernel_rfl⟩
instance by101 : ByI Try.prog 101 8 := ⟨by kernel_rfl⟩
instance zc101 : ZcI Try.prog 101 [.nfn] := ⟨.nilFunc, by kernel_rfl, rfl, rfl⟩
instance ty102 : TyI Try.prog 102 false 1 := ⟨by kernel_rfl, by kernel_rfl⟩
instance no102 : NoI Try.prog 102 := ⟨by kernel_rfl⟩
instance by102 : ByI Try.prog 102 8 := ⟨by kernel_rfl⟩
instance zc102 : ZcI Try.prog 102 [.nfn] := ⟨.nilFunc, by kernel_rfl, rfl, rfl⟩
instance ty103 : TyI Try.prog 103 false 1 := ⟨by kernel_rfl, by kernel_rfl⟩
instance no103 : NoI Try.prog 103 := ⟨by kernel_rfl⟩
instance by103 : ByI Try.prog 103 8 := ⟨by kernel_rfl⟩
instance zc103 : ZcI Try.prog 103 [.nfn] := ⟨.nilFunc, by kernel_rfl, rfl, rfl⟩
instance ty104 : TyI Try.prog 104 false 1 := ⟨by kernel_rfl, by kernel_rfl⟩
instance no104 : NoI Try.prog 104 := ⟨by kernel_rfl⟩
instance by104 : ByI Try.prog 104 8 := ⟨by kernel_rfl⟩
instance zc104 : ZcI Try.prog 104 [.nfn] := ⟨.nilFunc, by kernel_rfl, rfl, rfl⟩
instance ty110 : TyI Try.prog 110 false 1 := ⟨by kernel_rfl, by kernel_rfl⟩
instance no110 : NoI Try.prog 110 := ⟨by kernel_rfl⟩
instance by110 : ByI Try.prog 110 4 := ⟨by kernel_rfl⟩
instance ud110 : UdI Try.prog 110 (.int .u32) := ⟨by kernel_rfl⟩
instance zc110 : ZcI Try.prog 110 [.int .u32 0] := ⟨.int .u32 0, by kernel_rfl, rfl, rfl⟩
instance ty113 : TyI Try.prog 113 false 1 := ⟨by kernel_rfl, by kernel_rfl⟩
instance no113 : NoI Try.prog 113 := ⟨by kernel_rfl⟩
instance by113 : ByI Try.prog 113 8 := ⟨by kernel_rfl⟩
instance zc113 : ZcI Try.prog 113 [.nfn] := ⟨.nilFunc, by kernel_rfl, rfl, rfl⟩
instance ty114 : TyI Try.prog 114 false 1 := ⟨by kernel_rfl, by kernel_rfl⟩
instance no114 : NoI Try.prog 114 := ⟨by kernel_rfl⟩
instance by114 : ByI Try.prog 114 8 := ⟨by kernel_rfl⟩
instance zc114 : ZcI Try.prog 114 [.nptr] := ⟨.pointer none, by kernel_rfl, rfl, rfl⟩
instance fn3 : FnI Try.prog 3 := ⟨by kernel_rfl⟩
instance fn4 : FnI Try.prog 4 := ⟨by kernel_rfl⟩
instance fn5 : FnI Try.prog 5 := ⟨by kernel_rfl⟩
instance fn6 : FnI Try.prog 6 := ⟨by kernel_rfl⟩
instance fn7 : FnI Try.prog 7 := ⟨by kernel_rfl⟩
instance fn8 : FnI Try.prog 8 := ⟨by kernel_rfl⟩
instance fn9 : FnI Try.prog 9 := ⟨by kernel_rfl⟩
instance fn10 : FnI Try.prog 10 := ⟨by kernel_rfl⟩
instance fn11 : FnI Try.prog 11 := ⟨by kernel_rfl⟩
instance fn12 : FnI Try.prog 12 := ⟨by kernel_rfl⟩
instance fn13 : FnI Try.prog 13 := ⟨by kernel_rfl⟩
instance fn14 : FnI Try.prog 14 := ⟨by kernel_rfl⟩
instance fn15 : FnI Try.prog 15 := ⟨by kernel_rfl⟩
instance fn16 : FnI Try.prog 16 := ⟨by kernel_rfl⟩
instance fn17 : FnI Try.prog 17 := ⟨by kernel_rfl⟩
instance fn18 : FnI Try.prog 18 := ⟨by kernel_rfl⟩
instance fn19 : FnI Try.prog 19 := ⟨by kernel_rfl⟩
instance fn20 : FnI Try.prog 20 := ⟨by kernel_rfl⟩
instance fn21 : FnI Try.prog 21 := ⟨by kernel_rfl⟩
instance fn22 : FnI Try.prog 22 := ⟨by kernel_rfl⟩
instance fn23 : FnI Try.prog 23 := ⟨by kernel_rfl⟩
instance fn24 : FnI Try.prog 24 := ⟨by kernel_rfl⟩
instance fn25 : FnI Try.prog 25 := ⟨by kernel_rfl⟩
instance fn26 : FnI Try.prog 26 := ⟨by kernel_rfl⟩
instance fn27 : FnI Try.prog 27 := ⟨by kernel_rfl⟩
instance fn28 : FnI Try.prog 28 := ⟨by kernel_rfl⟩
instance fn29 : FnI Try.prog 29 := ⟨by kernel_rfl⟩
instance fn30 : FnI Try.prog 30 := ⟨by kernel_rfl⟩
instance fn31 : FnI Try.prog 31 := ⟨by kernel_rfl⟩
instance fn32 : FnI Try.prog 32 := ⟨by kernel_rfl⟩
instance fn33 : FnI Try.prog 33 := ⟨by kernel_rfl⟩
instance fn34 : FnI Try.prog 34 := ⟨by kernel_rfl⟩
instance fn35 : FnI Try.prog 35 := ⟨by kernel_rfl⟩
instance fn36 : FnI Try.prog 36 := ⟨by kernel_rfl⟩
instance fn37 : FnI Try.prog 37 := ⟨by kernel_rfl⟩
instance fn38 : FnI Try.prog 38 := ⟨by kernel_rfl⟩
instance fn39 : FnI Try.prog 39 := ⟨by kernel_rfl⟩
instance fn40 : FnI Try.prog 40 := ⟨by kernel_rfl⟩
instance fn41 : FnI Try.prog 41 := ⟨by kernel_rfl⟩
instance fn42 : FnI Try.prog 42 := ⟨by kernel_rfl⟩
instance fn43 : FnI Try.prog 43 := ⟨by kernel_rfl⟩
instance fn44 : FnI Try.prog 44 := ⟨by kernel_rfl⟩
instance fn45 : FnI Try.prog 45 := ⟨by kernel_rfl⟩
instance fn46 : FnI Try.prog 46 := ⟨by kernel_rfl⟩
instance fn47 : FnI Try.prog 47 := ⟨by kernel_rfl⟩
instance fn48 : FnI Try.prog 48 := ⟨by kernel_rfl⟩
instance fn49 : FnI Try.prog 49 := ⟨by kernel_rfl⟩
instance fn50 : FnI Try.prog 50 := ⟨by kernel_rfl⟩
instance fn51 : FnI Try.prog 51 := ⟨by kernel_rfl⟩
instance fn52 : FnI Try.prog 52 := ⟨by kernel_rfl⟩
instance fn53 : FnI Try.prog 53 := ⟨by kernel_rfl⟩
instance fn54 : FnI Try.prog 54 := ⟨by kernel_rfl⟩
instance fn55 : FnI Try.prog 55 := ⟨by kernel_rfl⟩
instance fn56 : FnI Try.prog 56 := ⟨by kernel_rfl⟩
instance fn57 : FnI Try.prog 57 := ⟨by kernel_rfl⟩
instance fn58 : FnI Try.prog 58 := ⟨by kernel_rfl⟩
instance fn59 : FnI Try.prog 59 := ⟨by kernel_rfl⟩
instance fn60 : FnI Try.prog 60 := ⟨by kernel_rfl⟩
instance fn61 : FnI Try.prog 61 := ⟨by kernel_rfl⟩
instance fn62 : FnI Try.prog 62 := ⟨by kernel_rfl⟩
instance fn63 : FnI Try.prog 63 := ⟨by kernel_rfl⟩
instance fn64 : FnI Try.prog 64 := ⟨by kernel_rfl⟩
instance fn65 : FnI Try.prog 65 := ⟨by kernel_rfl⟩
instance fn67 : FnI Try.prog 67 := ⟨by kernel_rfl⟩
theorem mixed : Try.prog.follows .mixedOrders = true := by kernel_rfl
end Go.Av

namespace Go.Av
open Go.Proofs
set_option maxRecDepth 10000
set_option linter.unusedSimpArgs false
set_option linter.unusedVariables false

/-! Letters of tags. -/
def inLet (c : Int) : Bool := (decide (97 ≤ c) && decide (c ≤ 122)) || (decide (48 ≤ c) && decide (c ≤ 57))
abbrev lets : ByteArray := ⟨#[97, 98, 99, 100, 101, 102, 103, 104, 105, 106, 107, 108, 109, 110, 111, 112, 113, 114, 115, 116, 117, 118, 119, 120, 121, 122, 48, 49, 50, 51, 52, 53, 54, 55, 56, 57]⟩
def tagb (b : UInt8) : Bool := inLet (b.toNat : Int)

theorem slite_IndexByte (s : ByteArray) (c : Int) (H : Heap) : AC Try.prog 67 [.str s, .int .u8 c] H (Ret (.int .i64 (Lib.indexByte s.data.toList c.toNat.toUInt8)) H) := by
  refine AC.body (N := 8) [.tmp 4] Try.func67 rfl rfl rfl (Nat.le_of_ble_eq_true rfl) fun B hB => ?_
  repeat (refine aw_seq ?_)
  refine aw_region ?_
  refine ao1 (by decide) (o_assign (v := .int _ _) rfl) ?_
  refine ao_nil ?_
  repeat (first | refine then_nrm ?_ | refine aw_seq ?_)
  refine aw_region ?_
  refine ao1 (by decide) (o_move (v := .str _) rfl) ?_
  refine ao1 (by decide) (o_move (v := .int _ _) rfl) ?_
  refine ao1 (by decide) (o_indexByteStr Try.func68 (by kernel_rfl) (by kernel_rfl) (by kernel_rfl) (by kernel_rfl) rfl rfl) ?_
  refine ao1 (by decide) (o_assign (v := .int _ _) rfl) ?_
  refine ao_nil ?_
  repeat (first | refine then_nrm ?_ | refine aw_ret ?_)
  exact e_done hB (r_tmp rfl .nil) rfl rfl
theorem strings_IndexByte (s : ByteArray) (c : Int) (H : Heap) : AC Try.prog 63 [.str s, .int .u8 c] H (Ret (.int .i64 (Lib.indexByte s.data.toList c.toNat.toUInt8)) H) := by
  refine AC.body (N := 8) [.tmp 4] Try.func63 rfl rfl rfl (Nat.le_of_ble_eq_true rfl) fun B hB => ?_
  repeat (refine aw_seq ?_)
  refine aw_region ?_
  refine ao1 (by decide) (o_assign (v := .int _ _) rfl) ?_
  refine ao_nil ?_
  repeat (first | refine then_nrm ?_ | refine aw_seq ?_)
  refine aw_region ?_
  refine ao1 (by decide) (o_move (v := .str _) rfl) ?_
  refine ao1 (by decide) (o_move (v := .int _ _) rfl) ?_
  refine ao_ret (slite_IndexByte _ _ _) rfl (by decide) ?_
  refine ao1 (by decide) (o_assign (v := .int _ _) rfl) ?_
  refine ao_nil ?_
  repeat (first | refine then_nrm ?_ | refine aw_ret ?_)
  exact e_done hB (r_tmp rfl .nil) rfl rfl
theorem utf8_ValidRune (c : Int) (H : Heap) : AC Try.prog 64 [.int .i32 c] H (Ret (.bool (Utf8.valid c)) H) := by
  refine AC.body (N := 17) [.tmp 2] Try.func64 rfl rfl rfl (Nat.le_of_ble_eq_true rfl) fun B hB => ?_
  repeat (refine aw_seq ?_)
  refine aw_region ?_
  refine ao1 (by decide) (o_assign (v := .bool _) rfl) ?_
  refine ao_nil ?_
  repeat (first | refine then_nrm ?_ | refine aw_seq ?_ | refine aw_block ?_)
  refine aw_out 3 (.bool (decide (0 ≤ c) && decide (c < 55296))) ?_ ?_
  · refine ao1 (by decide) (o_move (v := .int _ _) rfl) ?_
    refine ao1 (by decide) (o_le rfl rfl) ?_
    refine ao1 (by decide) (o_move (v := .bool _) rfl) ?_
    refine ao_split rfl rfl (fun hg2 => ?_) (fun hg2 => ?_)
    · refine ao_y1 rfl rfl (by decide) (o_move (v := .int _ _) rfl) ?_
      refine ao_y1 rfl rfl (by decide) (o_lt rfl rfl) ?_
      refine ao1 (by decide) (o_pick_t (v := .bool _) rfl rfl) ?_
      refine ao1 (by decide) (o_assign (v := .bool _) rfl) ?_
      exact ao_nil (Out.mk (by (refine congrArg AV.bool ?_; (refine Bool.eq_iff_iff.mpr ?_; simp only [Bool.and_eq_true, Bool.or_eq_true, Bool.not_eq_true', decide_eq_true_eq, decide_eq_false_iff_not, beq_iff_eq, bne_iff_ne, beq_eq_false_iff_ne, Bool.false_eq_true, Bool.true_eq_false, Bool.and_eq_false_iff, Bool.or_eq_false_iff, List.length_map, false_iff, true_iff, iff_true, iff_false] at *; omega))) (by repeat (first | exact SubX.refl _ _ | refine SubX.at ?_ | refine SubX.put rfl ?_)))
    · refine ao_nT rfl rfl (by decide) ?_
      refine ao_nT rfl rfl (by decide) ?_
      refine ao1 (by decide) (o_pick_f (v := .bool _) rfl rfl) ?_
      refine ao1 (by decide) (o_assign (v := .bool _) rfl) ?_
      exact ao_nil (Out.mk (by (refine congrArg AV.bool ?_; (refine Bool.eq_iff_iff.mpr ?_; simp only [Bool.and_eq_true, Bool.or_eq_true, Bool.not_eq_true', decide_eq_true_eq, decide_eq_false_iff_not, beq_iff_eq, bne_iff_ne, beq_eq_false_iff_ne, Bool.false_eq_true, Bool.true_eq_false, Bool.and_eq_false_iff, Bool.or_eq_false_iff, List.length_map, false_iff, true_iff, iff_true, iff_false] at *; omega))) (by repeat (first | exact SubX.refl _ _ | refine SubX.at ?_ | refine SubX.put rfl ?_)))
  repeat (refine then_nrm ?_)
  refine aw_cond rfl (fun hc => ?_) (fun hc => ?_)
  · repeat (refine aw_seq ?_)
    refine aw_region ?_
    refine ao1 (by decide) (o_assign (v := .bool _) rfl) ?_
    refine ao_nil ?_
    repeat (first | refine then_nrm ?_ | refine then_ret ?_ | refine blk_ret ?_ | refine aw_ret ?_)
    rw [show Utf8.valid c = true by simp [Utf8.valid]; simp at hc; omega]
    exact e_done hB (r_tmp rfl .nil) rfl rfl
  · repeat (refine aw_seq ?_)
    refine aw_out 10 (.bool (decide (57343 < c) && decide (c ≤ 1114111))) ?_ ?_
    · refine ao1 (by decide) (o_move (v := .int _ _) rfl) ?_
      refine ao1 (by decide) (o_lt rfl rfl) ?_
      refine ao1 (by decide) (o_move (v := .bool _) rfl) ?_
      refine ao_split rfl rfl (fun hg2 => ?_) (fun hg2 => ?_)
      · refine ao_y1 rfl rfl (by decide) (o_move (v := .int _ _) rfl) ?_
        refine ao_y1 rfl rfl (by decide) (o_le rfl rfl) ?_
        refine ao1 (by decide) (o_pick_t (v := .bool _) rfl rfl) ?_
        refine ao1 (by decide) (o_assign (v := .bool _) rfl) ?_
        exact ao_nil (Out.mk (by (refine congrArg AV.bool ?_; (refine Bool.eq_iff_iff.mpr ?_; simp only [Bool.and_eq_true, Bool.or_eq_true, Bool.not_eq_true', decide_eq_true_eq, decide_eq_false_iff_not, beq_iff_eq, bne_iff_ne, beq_eq_false_iff_ne, Bool.false_eq_true, Bool.true_eq_false, Bool.and_eq_false_iff, Bool.or_eq_false_iff, List.length_map, false_iff, true_iff, iff_true, iff_false] at *; omega))) (by repeat (first | exact SubX.refl _ _ | refine SubX.at ?_ | refine SubX.put rfl ?_)))
      · refine ao_nT rfl rfl (by decide) ?_
        refine ao_nT rfl rfl (by decide) ?_
        refine ao1 (by decide) (o_pick_f (v := .bool _) rfl rfl) ?_
        refine ao1 (by decide) (o_assign (v := .bool _) rfl) ?_
        exact ao_nil (Out.mk (by (refine congrArg AV.bool ?_; (refine Bool.eq_iff_iff.mpr ?_; simp only [Bool.and_eq_true, Bool.or_eq_true, Bool.not_eq_true', decide_eq_true_eq, decide_eq_false_iff_not, beq_iff_eq, bne_iff_ne, beq_eq_false_iff_ne, Bool.false_eq_true, Bool.true_eq_false, Bool.and_eq_false_iff, Bool.or_eq_false_iff, List.length_map, false_iff, true_iff, iff_true, iff_false] at *; omega))) (by repeat (first | exact SubX.refl _ _ | refine SubX.at ?_ | refine SubX.put rfl ?_)))
    repeat (refine then_nrm ?_)
    refine aw_cond rfl (fun hc => ?_) (fun hc => ?_)
    · repeat (refine aw_seq ?_)
      refine aw_region ?_
      refine ao1 (by decide) (o_assign (v := .bool _) rfl) ?_
      refine ao_nil ?_
      repeat (first | refine then_nrm ?_ | refine then_ret ?_ | refine blk_ret ?_ | refine aw_ret ?_)
      rw [show Utf8.valid c = true by simp [Utf8.valid]; simp at hc; omega]
      exact e_done hB (r_tmp rfl .nil) rfl rfl
    · repeat (first | refine then_nrm ?_ | refine blk_nrm ?_ | refine aw_seq ?_ | refine aw_skip ?_)
      refine aw_region ?_
      refine ao1 (by decide) (o_assign (v := .bool _) rfl) ?_
      refine ao_nil ?_
      repeat (first | refine then_nrm ?_ | refine aw_ret ?_)
      rw [show Utf8.valid c = false by simp [Utf8.valid]; simp at *; omega]
      exact e_done hB (r_tmp rfl .nil) rfl rfl
end Go.Av

namespace Go.Av
open Go.Proofs
set_option maxRecDepth 10000
set_option linter.unusedSimpArgs false
set_option linter.unusedVariables false

theorem lets_low : ∀ i : Nat, i < 36 → (lets.get! i).toNat < 128 := by decide +kernel
theorem lets_get : ∀ i : Nat, i < 36 → lets[i]? = some (lets.get! i) := by decide +kernel
theorem lets_size : lets.size = 36 := by decide +kernel
def ixl (c : Int) : Int := if c < 128 then Lib.indexByte lets.data.toList c.toNat.toUInt8 else -1
theorem ixl_in {c : Int} (h : 0 ≤ c) : decide (0 ≤ ixl c) = inLet c := by
  unfold ixl
  by_cases h1 : c < 128
  · rw [if_pos h1]
    obtain ⟨n, rfl⟩ : ∃ n : Nat, c = n := ⟨c.toNat, by omega⟩
    have : ∀ n : Nat, n < 128 → decide (0 ≤ Lib.indexByte lets.data.toList ((n : Int).toNat.toUInt8)) = inLet n := by decide +kernel
    exact this n (by omega)
  · rw [if_neg h1]
    simp [inLet]
    omega
theorem indexByte_none {l : List UInt8} {c : UInt8} (h : c ∉ l) : Lib.indexByte l c = -1 := by
  induction l with
  | nil => rfl
  | cons b l ih =>
    simp only [List.mem_cons, not_or] at h
    unfold Lib.indexByte
    rw [ih h.2, if_neg (by simpa using fun e => h.1 e.symm)]
    rfl
theorem lets_high {b : UInt8} (h : 128 ≤ b.toNat) (l h' : Nat) : Lib.indexByte (lets.extract l h').data.toList b = -1 := by
  refine indexByte_none fun hm => ?_
  have hm2 : b ∈ lets.data.toList := by
    rw [ByteArray.data_extract] at hm
    rw [Array.toList_extract, List.extract_eq_take_drop] at hm
    exact List.mem_of_mem_drop (List.mem_of_mem_take hm)
  have : ∀ x ∈ lets.data.toList, x.toNat < 128 := by decide +kernel
  have := this b hm2
  omega

set_option maxHeartbeats 0 in
theorem strings_IndexRune (c : Int) (hc0 : 0 ≤ c) (hc1 : c ≤ 1114111) (H : Heap) : AC Try.prog 61 [.str lets, .int .i32 c] H (Ret (.int .i64 (ixl c)) H) := by
  refine AC.body (N := 187) [.tmp 4] Try.func61 rfl rfl rfl (Nat.le_of_ble_eq_true rfl) fun B hB => ?_
  repeat (refine aw_seq ?_)
  refine aw_region ?_
  refine ao1 (by decide) (o_assign (v := .int _ _) rfl) ?_
  refine ao_nil ?_
  repeat (first | refine then_nrm ?_ | refine aw_seq ?_ | refine aw_block ?_)
  refine aw_out 160 (.bool (decide (c < 128))) ?_ ?_
  · refine ao1 (by decide) (o_move (v := .int _ _) rfl) ?_
    refine ao1 (by decide) (o_le rfl rfl) ?_
    refine ao1 (by decide) (o_move (v := .bool _) rfl) ?_
    refine ao_split rfl rfl (fun hg2 => ?_) (fun hg2 => ?_)
    · refine ao_y1 rfl rfl (by decide) (o_move (v := .int _ _) rfl) ?_
      refine ao_y1 rfl rfl (by decide) (o_lt rfl rfl) ?_
      refine ao1 (by decide) (o_pick_t (v := .bool _) rfl rfl) ?_
      refine ao1 (by decide) (o_assign (v := .bool _) rfl) ?_
      exact ao_nil (Out.mk (by rfl) (by repeat (first | exact SubX.refl _ _ | refine SubX.at ?_ | refine SubX.put rfl ?_)))
    · refine ao_nT rfl rfl (by decide) ?_
      refine ao_nT rfl rfl (by decide) ?_
      refine ao1 (by decide) (o_pick_f (v := .bool _) rfl rfl) ?_
      refine ao1 (by decide) (o_assign (v := .bool _) rfl) ?_
      exact ao_nil (Out.mk (by (refine congrArg AV.bool ?_; (refine Bool.eq_iff_iff.mpr ?_; simp only [Bool.and_eq_true, Bool.or_eq_true, Bool.not_eq_true', decide_eq_true_eq, decide_eq_false_iff_not, beq_iff_eq, bne_iff_ne, beq_eq_false_iff_ne, Bool.false_eq_true, Bool.true_eq_false, Bool.and_eq_false_iff, Bool.or_eq_false_iff, List.length_map, false_iff, true_iff, iff_true, iff_false] at *; omega))) (by repeat (first | exact SubX.refl _ _ | refine SubX.at ?_ | refine SubX.put rfl ?_)))
  repeat (refine then_nrm ?_)
  refine aw_cond rfl (fun hc => ?_) (fun hc => ?_)
  · simp at hc
    repeat (refine aw_seq ?_)
    refine aw_region ?_
    refine ao1 (by decide) (o_move (v := .str _) rfl) ?_
    refine ao1 (by decide) (o_move (v := .int _ _) rfl) ?_
    refine ao1 (by decide) (o_conv_int rfl (show IntKind.u8.wrap c = c by simp [IntKind.wrap, IntKind.signed, IntKind.bits]; omega)) ?_
    refine ao_ret (strings_IndexByte _ _ _) rfl (by decide) ?_
    refine ao1 (by decide) (o_assign (v := .int _ _) rfl) ?_
    refine ao_nil ?_
    try dsimp only
    repeat (first | refine then_nrm ?_ | refine blk_ret ?_ | refine aw_ret ?_)
    rw [show Lib.indexByte lets.data.toList c.toNat.toUInt8 = ixl c by rw [ixl, if_pos hc]]
    exact e_done hB (r_tmp rfl .nil) rfl rfl
  have hc128 : 128 ≤ c := by simp at hc; omega
  rw [show ixl c = -1 by rw [ixl, if_neg (by omega)]]
  repeat (refine aw_seq ?_)
  refine aw_region ?_
  refine ao1 (by decide) (o_move (v := .int _ _) rfl) ?_
  refine ao1 (by decide) (o_eq rfl rfl) ?_
  refine ao1 (by decide) (o_assign (v := .bool _) rfl) ?_
  refine ao_nil ?_
  repeat (refine then_nrm ?_)
  refine aw_cond rfl (fun hc => ?_) (fun hc => ?_)
  · refine aw_seq ?_
    refine aw_rangeStr (s := lets) rfl (by decide) (by decide) (by decide) (by decide) (by decide) (by decide) (by decide) (fun _ => True) (fun _ => []) trivial Sub.nil ?_ ?_
    · intro pos r B' hp _ hB'
      rw [lets_size] at hp
      have hlow := lets_low pos hp
      rw [decode_low lets pos hlow]
      repeat (first | refine aw_seq ?_ | refine aw_block ?_)
      refine aw_region ?_
      refine ao1 (by decide) (o_extract (v := .int _ _) rfl rfl) ?_
      refine ao1 (by decide) (o_extract (v := .int _ _) rfl rfl) ?_
      refine ao1 (by decide) (o_assign (v := .int _ _) rfl) ?_
      refine ao1 (by decide) (o_assign (v := .int _ _) rfl) ?_
      refine ao_nil ?_
      try dsimp only
      repeat (first | refine then_nrm ?_ | refine aw_seq ?_)
      refine aw_region ?_
      refine ao1 (by decide) (o_move (v := .int _ _) rfl) ?_
      refine ao1 (by decide) (o_eq rfl rfl) ?_
      refine ao_nil ?_
      repeat (refine then_nrm ?_)
      refine aw_cond rfl (fun hc => ?_) (fun hc => ?_)
      · simp at hc; omega
      · repeat (first | refine then_nrm ?_ | refine blk_nrm ?_ | refine aw_skip ?_)
        exact ⟨trivial, (by repeat (first | exact Sub.nil | refine Sub.cons (by rfl) ?_)), rfl⟩
    · intro pos r hp _
      repeat (first | refine then_nrm ?_ | refine aw_seq ?_)
      refine aw_region ?_
      refine ao1 (by decide) (o_assign (v := .int _ _) rfl) ?_
      refine ao_nil ?_
      repeat (first | refine then_nrm ?_ | refine blk_ret ?_ | refine aw_ret ?_)
      exact e_done hB (r_tmp rfl .nil) rfl rfl
  · repeat (refine aw_seq ?_)
    refine aw_region ?_
    refine ao1 (by decide) (o_move (v := .int _ _) rfl) ?_
    refine ao_ret (utf8_ValidRune _ _) rfl (by decide) ?_
    refine ao1 (by decide) (o_not rfl) ?_
    refine ao1 (by decide) (o_assign (v := .bool _) rfl) ?_
    refine ao_nil ?_
    repeat (refine then_nrm ?_)
    refine aw_cond rfl (fun hc => ?_) (fun hc => ?_)
    · repeat (refine aw_seq ?_)
      refine aw_region ?_
      refine ao1 (by decide) (o_assign (v := .int _ _) rfl) ?_
      refine ao_nil ?_
      repeat (first | refine then_nrm ?_ | refine blk_ret ?_ | refine aw_ret ?_)
      exact e_done hB (r_tmp rfl .nil) rfl rfl
    · have hv : Utf8.valid c = true := by simpa using hc
      obtain ⟨h2, h4, hb⟩ := encode_high hc128 hv
      obtain ⟨m, hm⟩ : ∃ m, (Utf8.encode c).data.toList.length = m + 1 := ⟨_, (Nat.succ_pred (by omega : (Utf8.encode c).data.toList.length ≠ 0)).symm⟩
      have hsz : (Utf8.encode c).size = m + 1 := by show (Utf8.encode c).data.size = m + 1; rw [← Array.length_toList, hm]
      obtain ⟨bl, hbl, hbm⟩ : ∃ bl, (Utf8.encode c)[m]? = some bl ∧ bl ∈ (Utf8.encode c).data.toList := by
        have hlt : m < (Utf8.encode c).size := by omega
        refine ⟨(Utf8.encode c)[m], getElem?_pos (Utf8.encode c) m hlt, ?_⟩
        rw [ByteArray.getElem_eq_getElem_data]
        exact Array.getElem_mem_toList _
      have hb128 := hb bl hbm
      have hlow := lets_low m (by omega)
      have hlm := lets_get m (by omega)
      repeat (first | refine aw_seq ?_ | refine aw_scope ?_)
      refine aw_region ?_
      refine ao1 (by decide) (o_move (v := .int _ _) rfl) ?_
      refine ao1 (by decide) (o_runeStr rfl) ?_
      refine ao1 (by decide) (o_assign (v := .str _) rfl) ?_
      refine ao_nil ?_
      repeat (first | refine then_nrm ?_ | refine aw_seq ?_)
      refine aw_region ?_
      refine ao1 (by decide) (o_move (v := .str _) rfl) ?_
      refine ao1 (by decide) (o_lenStr rfl) ?_
      refine ao1 (by decide) (o_sub (r := (m : Int)) rfl rfl (by rw [hsz, show ((m + 1 : Nat) : Int) - 1 = (m : Int) by omega]; exact wrap64_ok (by omega) (by omega))) ?_
      refine ao1 (by decide) (o_assign (v := .int _ _) rfl) ?_
      refine ao_nil ?_
      repeat (first | refine then_nrm ?_ | refine aw_seq ?_)
      refine aw_region ?_
      refine ao1 (by decide) (o_move (v := .int _ _) rfl) ?_
      refine ao1 (by decide) (o_assign (v := .int _ _) rfl) ?_
      refine ao_nil ?_
      repeat (first | refine then_nrm ?_ | refine aw_seq ?_)
      refine aw_region ?_
      refine ao1 (by decide) (o_assign (v := .int _ _) rfl) ?_
      refine ao_nil ?_
      repeat (first | refine then_nrm ?_ | refine aw_seq ?_ | refine aw_block ?_)
      refine aw_loop (G := Unit) (fun _ => True) (fun _ => [(0, .str lets), (7, .str (Utf8.encode c)), (8, .int .i64 (m : Int)), (9, .int .i64 (m : Int))]) (fun _ => H ++ []) (fun _ => 0) () trivial (by repeat (first | exact Sub.nil | refine Sub.cons (by rfl) ?_)) (Fit.refl _ _) ?_
      rintro _ _
      repeat (refine aw_seq ?_)
      refine aw_region ?_
      refine ao1 (by decide) (o_move (v := .int _ _) rfl) ?_
      refine ao1 (by decide) (o_move (v := .str _) rfl) ?_
      refine ao1 (by decide) (o_lenStr rfl) ?_
      refine ao1 (by decide) (o_lt rfl rfl) ?_
      refine ao_nil ?_
      repeat (refine then_nrm ?_)
      refine aw_cond rfl (fun hc => ?_) (fun hc => ?_)
      · repeat (first | refine then_nrm ?_ | refine aw_seq ?_ | refine aw_block ?_ | refine aw_skip ?_ | refine aw_scope ?_)
        refine aw_drawP mixed none 999 ?_
        refine aq0 0 rfl (by decide +kernel) (by decide) (fun _ => o_move (v := .str _) rfl) ?_
        refine aq0 1 rfl (by decide +kernel) (by decide) (fun _ => o_move (v := .int _ _) rfl) ?_
        refine aq0 2 rfl (by decide +kernel) (by decide) (fun _ => o_indexStr rfl rfl (by omega) hlm) ?_
        refine aq0 3 rfl (by decide +kernel) (by decide) (fun _ => o_move (v := .str _) rfl) ?_
        refine aq0 4 rfl (by decide +kernel) (by decide) (fun _ => o_move (v := .int _ _) rfl) ?_
        refine aq0 5 rfl (by decide +kernel) (by decide) (fun _ => o_indexStr rfl rfl (by omega) hbl) ?_
        refine aq0 6 rfl (by decide +kernel) (by decide) (fun _ => o_ne rfl rfl) ?_
        refine aa_done (by decide +kernel) (by exact fun _ => ⟨_, rfl⟩) ?_
        repeat (refine then_nrm ?_)
        refine aw_cond rfl (fun hc => ?_) (fun hc => ?_)
        · repeat (refine aw_seq ?_)
          refine aw_drawP mixed none 999 ?_
          refine aq0 0 rfl (by decide +kernel) (by decide) (fun _ => o_move (v := .str _) rfl) ?_
          refine aq0 1 rfl (by decide +kernel) (by decide) (fun _ => o_move (v := .int _ _) rfl) ?_
          refine aq0 2 rfl (by decide +kernel) (by decide) (fun _ => o_add rfl rfl (wrap64_ok (by omega) (by omega))) ?_
          refine aq0 3 rfl (by decide +kernel) (by decide) (fun _ => o_sliceStr (l := m + 1) rfl (.some rfl rfl) .none (by rw [lets_size]; omega) (Nat.le_refl _)) ?_
          refine aq0 4 rfl (by decide +kernel) (by decide) (fun _ => o_move (v := .str _) rfl) ?_
          refine aq0 5 rfl (by decide +kernel) (by decide) (fun _ => o_move (v := .int _ _) rfl) ?_
          refine aq0 6 rfl (by decide +kernel) (by decide) (fun _ => o_indexStr rfl rfl (by omega) hbl) ?_
          refine aq02 7 rfl (by decide +kernel) (by decide) (fun _ => V2.call (strings_IndexByte (lets.extract (m + 1) lets.size) (bl.toNat : Int) _) rfl) ?_
          refine aq0 8 rfl (by decide +kernel) (by decide) (fun _ => o_assign (v := .int _ _) rfl) ?_
          refine aa_done (by decide +kernel) (by exact fun _ => ⟨_, rfl⟩) ?_
          rw [show ((bl.toNat : Int).toNat.toUInt8) = bl by simp, lets_high hb128]
          repeat (first | refine then_nrm ?_ | refine aw_seq ?_)
          refine aw_region ?_
          refine ao1 (by decide) (o_move (v := .int _ _) rfl) ?_
          refine ao1 (by decide) (o_lt rfl rfl) ?_
          refine ao_nil ?_
          repeat (refine then_nrm ?_)
          refine aw_cond rfl (fun hc => ?_) (fun hc => ?_)
          · repeat (refine aw_seq ?_)
            refine aw_region ?_
            refine ao1 (by decide) (o_assign (v := .int _ _) rfl) ?_
            refine ao_nil ?_
            repeat (first | refine then_nrm ?_ | refine then_ret ?_ | refine blk_ret ?_ | refine aw_ret ?_)
            exact e_done hB (r_tmp rfl .nil) rfl rfl
          · simp at hc
        · simp at hc
          omega
      · simp [lets_size] at hc
        omega
end Go.Av

namespace Go.Av
open Go.Proofs
set_option maxRecDepth 10000
set_option linter.unusedSimpArgs false
set_option linter.unusedVariables false

theorem strings_ContainsRune (c : Int) (h0 : 0 ≤ c) (h1 : c ≤ 1114111) (H : Heap) : AC Try.prog 53 [.str lets, .int .i32 c] H (Ret (.bool (inLet c)) H) := by
  refine AC.body (N := 9) [.tmp 4] Try.func53 rfl rfl rfl (Nat.le_of_ble_eq_true rfl) fun B hB => ?_
  repeat (refine aw_seq ?_)
  refine aw_region ?_
  refine ao1 (by decide) (o_assign (v := .bool _) rfl) ?_
  refine ao_nil ?_
  repeat (first | refine then_nrm ?_ | refine aw_seq ?_)
  refine aw_region ?_
  refine ao1 (by decide) (o_move (v := .str _) rfl) ?_
  refine ao1 (by decide) (o_move (v := .int _ _) rfl) ?_
  refine ao_ret (strings_IndexRune _ (by assumption) (by assumption) _) rfl (by decide) ?_
  refine ao1 (by decide) (o_ge rfl rfl) ?_
  refine ao1 (by decide) (o_assign (v := .bool _) rfl) ?_
  refine ao_nil ?_
  repeat (first | refine then_nrm ?_ | refine aw_ret ?_)
  rw [← ixl_in h0]
  exact e_done hB (r_tmp rfl .nil) rfl rfl
theorem graph_Tag_1 (c : Int) (h0 : 0 ≤ c) (h1 : c ≤ 1114111) (H : Heap) : AC Try.prog 52 [.int .i32 c] H (Ret (.bool (!inLet c)) H) := by
  refine AC.body (N := 6) [.tmp 2] Try.func52 rfl rfl rfl (Nat.le_of_ble_eq_true rfl) fun B hB => ?_
  repeat (refine aw_seq ?_)
  refine aw_region ?_
  refine ao1 (by decide) (o_assign (v := .bool _) rfl) ?_
  refine ao_nil ?_
  repeat (first | refine then_nrm ?_ | refine aw_seq ?_)
  refine aw_region ?_
  refine ao1 (by decide) (o_move (v := .int _ _) rfl) ?_
  refine ao_ret (strings_ContainsRune _ (by assumption) (by assumption) _) rfl (by decide) ?_
  refine ao1 (by decide) (o_not rfl) ?_
  refine ao1 (by decide) (o_assign (v := .bool _) rfl) ?_
  refine ao_nil ?_
  repeat (first | refine then_nrm ?_ | refine aw_ret ?_)
  exact e_done hB (r_tmp rfl .nil) rfl rfl

theorem str_get {s : ByteArray} {k : Nat} (h : k < s.size) : ∃ b : UInt8, s[k]? = some b ∧ s.data.toList[k]? = some b ∧ s.get! k = b := by
  refine ⟨s[k], getElem?_pos s k h, ?_, ?_⟩
  · rw [Array.getElem?_toList]; exact getElem?_pos s.data k h
  · show s.get! k = _
    simp [ByteArray.get!, getElem!_pos, h]
    rfl
theorem str_len (s : ByteArray) : s.data.toList.length = s.size := by rw [Array.length_toList]; rfl
theorem dec_ok {s : ByteArray} {k : Nat} {b : UInt8} (h : s.get! k = b) : inLet ((Utf8.decode s k).1 : Int) = tagb b ∧ (Utf8.decode s k).1 ≤ 1114111 ∧ (tagb b = true → (Utf8.decode s k).2 = 1) := by
  by_cases hb : b.toNat < 128
  · have := decode_low s k (by rw [h]; exact hb)
    rw [this, h]
    exact ⟨rfl, by simp only; omega, fun _ => rfl⟩
  · have := decode_high s k (by rw [h]; omega)
    have hn : tagb b = false := by simp [tagb, inLet]; omega
    refine ⟨?_, this.2, fun h => by rw [hn] at h; cases h⟩
    rw [hn]
    simp [inLet]
    omega

theorem strings_indexFunc (s : ByteArray) (H : Heap) : AC Try.prog 62 [.str s, .fn (.func 52) [] [], .bool true] H (Ret (.int .i64 (ixf (fun b => !tagb b) s.data.toList)) H) := by
  refine AC.body (N := 21) [.tmp 6] Try.func62 rfl rfl rfl (Nat.le_of_ble_eq_true rfl) fun B hB => ?_
  repeat (refine aw_seq ?_)
  refine aw_region ?_
  refine ao1 (by decide) (o_assign (v := .int _ _) rfl) ?_
  refine ao_nil ?_
  refine then_nrm ?_
  refine aw_seq ?_
  refine aw_rangeStr (s := s) rfl (by decide) (by decide) (by decide) (by decide) (by decide) (by decide) (by decide) (fun k => k ≤ s.size ∧ ∀ b ∈ s.data.toList.take k, (!tagb b) = false) (fun _ => [(1, .fn (.func 52) [] []), (2, .bool true)]) ⟨Nat.zero_le _, by simp⟩ (by repeat (first | exact Sub.nil | refine Sub.cons (by rfl) ?_)) ?_ ?_
  · rintro k r B' hp ⟨hk, hno⟩ hB'
    obtain ⟨b, h1, h2, h3⟩ := str_get hp
    obtain ⟨d1, d2, d3⟩ := dec_ok h3
    generalize Utf8.decode s k = q at d1 d2 d3
    repeat (first | refine aw_seq ?_ | refine aw_block ?_)
    refine aw_region ?_
    refine ao1 (by decide) (o_extract (v := .int _ _) rfl rfl) ?_
    refine ao1 (by decide) (o_extract (v := .int _ _) rfl rfl) ?_
    refine ao1 (by decide) (o_assign (v := .int _ _) rfl) ?_
    refine ao1 (by decide) (o_assign (v := .int _ _) rfl) ?_
    refine ao_nil ?_
    repeat (first | refine then_nrm ?_ | refine aw_seq ?_)
    refine aw_region ?_
    refine ao1 (by decide) (o_move (v := .fn _ _ _) rfl) ?_
    refine ao1 (by decide) (o_move (v := .int _ _) rfl) ?_
    refine ao_retv (graph_Tag_1 (q.1 : Int) (by omega) (by omega) _) rfl rfl (by decide) ?_
    refine ao1 (by decide) (o_move (v := .bool _) rfl) ?_
    refine ao1 (by decide) (o_beq rfl rfl) ?_
    refine ao_nil ?_
    rw [d1]
    repeat (refine then_nrm ?_)
    refine aw_cond rfl (fun hc => ?_) (fun hc => ?_)
    · have hb : (!tagb b) = true := by simpa using hc
      repeat (refine aw_seq ?_)
      refine aw_region ?_
      refine ao1 (by decide) (o_move (v := .int _ _) rfl) ?_
      refine ao1 (by decide) (o_assign (v := .int _ _) rfl) ?_
      refine ao_nil ?_
      repeat (first | refine then_nrm ?_ | refine then_ret ?_ | refine blk_ret ?_ | refine aw_ret ?_)
      rw [ixf_some (p := fun b => !tagb b) h2 hb hno]
      exact e_done hB (r_tmp rfl .nil) rfl rfl
    · have hb : (!tagb b) = false := by simpa using hc
      have hq := d3 (by simpa using hb)
      repeat (first | refine then_nrm ?_ | refine blk_nrm ?_ | refine aw_skip ?_)
      rw [hq]
      refine ⟨⟨by omega, ?_⟩, (by repeat (first | exact Sub.nil | refine Sub.cons (by rfl) ?_)), rfl⟩
      rw [take_snoc_get h2]
      intro y hy
      rcases List.mem_append.1 hy with h | h
      · exact hno y h
      · simp only [List.mem_singleton] at h
        subst h
        exact hb
  · rintro k r hp ⟨hk, hno⟩
    have : k = s.size := by omega
    subst this
    rw [← str_len, List.take_length] at hno
    rw [ixf_none (p := fun b => !tagb b) hno]
    repeat (first | refine then_nrm ?_ | refine aw_seq ?_)
    refine aw_region ?_
    refine ao1 (by decide) (o_assign (v := .int _ _) rfl) ?_
    refine ao_nil ?_
    repeat (first | refine then_nrm ?_ | refine aw_ret ?_)
    exact e_done hB (r_tmp rfl .nil) rfl rfl
theorem strings_IndexFunc (s : ByteArray) (H : Heap) : AC Try.prog 60 [.str s, .fn (.func 52) [] []] H (Ret (.int .i64 (ixf (fun b => !tagb b) s.data.toList)) H) := by
  refine AC.body (N := 8) [.tmp 4] Try.func60 rfl rfl rfl (Nat.le_of_ble_eq_true rfl) fun B hB => ?_
  repeat (refine aw_seq ?_)
  refine aw_region ?_
  refine ao1 (by decide) (o_assign (v := .int _ _) rfl) ?_
  refine ao_nil ?_
  repeat (first | refine then_nrm ?_ | refine aw_seq ?_)
  refine aw_region ?_
  refine ao1 (by decide) (o_move (v := .str _) rfl) ?_
  refine ao1 (by decide) (o_move (v := .fn _ _ _) rfl) ?_
  refine ao_ret (strings_indexFunc _ _) rfl (by decide) ?_
  refine ao1 (by decide) (o_assign (v := .int _ _) rfl) ?_
  refine ao_nil ?_
  repeat (first | refine then_nrm ?_ | refine aw_ret ?_)
  exact e_done hB (r_tmp rfl .nil) rfl rfl
theorem strings_ContainsFunc (s : ByteArray) (H : Heap) : AC Try.prog 51 [.str s, .fn (.func 52) [] []] H (Ret (.bool (s.data.toList.any fun b => !tagb b)) H) := by
  refine AC.body (N := 9) [.tmp 4] Try.func51 rfl rfl rfl (Nat.le_of_ble_eq_true rfl) fun B hB => ?_
  repeat (refine aw_seq ?_)
  refine aw_region ?_
  refine ao1 (by decide) (o_assign (v := .bool _) rfl) ?_
  refine ao_nil ?_
  repeat (first | refine then_nrm ?_ | refine aw_seq ?_)
  refine aw_region ?_
  refine ao1 (by decide) (o_move (v := .str _) rfl) ?_
  refine ao1 (by decide) (o_move (v := .fn _ _ _) rfl) ?_
  refine ao_ret (strings_IndexFunc _ _) rfl (by decide) ?_
  refine ao1 (by decide) (o_ge rfl rfl) ?_
  refine ao1 (by decide) (o_assign (v := .bool _) rfl) ?_
  refine ao_nil ?_
  repeat (first | refine then_nrm ?_ | refine aw_ret ?_)
  rw [← ixf_nonneg]
  exact e_done hB (r_tmp rfl .nil) rfl rfl
/-- A tag of a node? -/
def tagok (s : ByteArray) : Bool := decide ((s.size : Int) ≤ 16) && s.data.toList.all tagb
theorem graph_Tag (s : ByteArray) (H : Heap) : AC Try.prog 33 [.str s] H (Ret (.bool (tagok s)) H) := by
  rw [show tagok s = (decide ((s.size : Int) ≤ 16) && !(s.data.toList.any fun b => !tagb b)) by simp [tagok, List.all_eq_not_any_not]]
  refine AC.body (N := 11) [.tmp 2] Try.func33 rfl rfl rfl (Nat.le_of_ble_eq_true rfl) fun B hB => ?_
  repeat (refine aw_seq ?_)
  refine aw_region ?_
  refine ao1 (by decide) (o_assign (v := .bool _) rfl) ?_
  refine ao_nil ?_
  repeat (first | refine then_nrm ?_ | refine aw_seq ?_)
  refine aw_out 2 (.bool (decide ((s.size : Int) ≤ 16) && !(s.data.toList.any fun b => !tagb b))) ?_ ?_
  · refine ao1 (by decide) (o_move (v := .str _) rfl) ?_
    refine ao1 (by decide) (o_lenStr rfl) ?_
    refine ao1 (by decide) (o_le rfl rfl) ?_
    refine ao1 (by decide) (o_move (v := .bool _) rfl) ?_
    refine ao_split rfl rfl (fun hg3 => ?_) (fun hg3 => ?_)
    · refine ao_y1 rfl rfl (by decide) (o_move (v := .str _) rfl) ?_
      refine ao_y rfl rfl (by decide) (V2.call (strings_ContainsFunc _ _) rfl) ?_
      refine ao_y1 rfl rfl (by decide) (o_not rfl) ?_
      refine ao1 (by decide) (o_pick_t (v := .bool _) rfl rfl) ?_
      refine ao1 (by decide) (o_assign (v := .bool _) rfl) ?_
      exact ao_nil (Out.mk (by (refine congrArg AV.bool ?_; (simp_all; done))) (by repeat (first | exact SubX.refl _ _ | refine SubX.at ?_ | refine SubX.put rfl ?_)))
    · refine ao_nT rfl rfl (by decide) ?_
      refine ao_nT rfl rfl (by decide) ?_
      refine ao_nT rfl rfl (by decide) ?_
      refine ao1 (by decide) (o_pick_f (v := .bool _) rfl rfl) ?_
      refine ao1 (by decide) (o_assign (v := .bool _) rfl) ?_
      exact ao_nil (Out.mk (by (refine congrArg AV.bool ?_; (refine Bool.eq_iff_iff.mpr ?_; simp only [Bool.and_eq_true, Bool.or_eq_true, Bool.not_eq_true', decide_eq_true_eq, decide_eq_false_iff_not, beq_iff_eq, bne_iff_ne, beq_eq_false_iff_ne, Bool.false_eq_true, Bool.true_eq_false, Bool.and_eq_false_iff, Bool.or_eq_false_iff, List.length_map, false_iff, true_iff, iff_true, iff_false] at *; omega))) (by repeat (first | exact SubX.refl _ _ | refine SubX.at ?_ | refine SubX.put rfl ?_)))
  repeat (first | refine then_nrm ?_ | refine aw_ret ?_)
  exact e_done hB (r_tmp rfl .nil) rfl rfl
theorem ref05_Tag (s : ByteArray) (H : Heap) (hs : s.size ≤ 9223372036854775807) : AC Try.prog 47 [.str s] H (Ret (.bool (tagok s)) H) := by
  refine AC.body (N := 37) [.tmp 2] Try.func47 rfl rfl rfl (Nat.le_of_ble_eq_true rfl) fun B hB => ?_
  repeat (refine aw_seq ?_)
  refine aw_region ?_
  refine ao1 (by decide) (o_assign (v := .bool _) rfl) ?_
  refine ao_nil ?_
  repeat (first | refine then_nrm ?_ | refine aw_seq ?_)
  refine aw_region ?_
  refine ao1 (by decide) (o_assign (v := .int _ _) rfl) ?_
  refine ao_nil ?_
  repeat (first | refine then_nrm ?_ | refine aw_block ?_)
  refine aw_loop (G := Nat) (fun k => k ≤ s.size ∧ (s.data.toList.take k).all tagb = true) (fun k => [(0, .str s), (3, .int .i64 (k : Int))]) (fun _ => H ++ []) (fun k => s.size - k) 0 ⟨Nat.zero_le _, by simp⟩ (by repeat (first | exact Sub.nil | refine Sub.cons (by rfl) ?_)) (Fit.refl _ _) ?_
  rintro k ⟨hk, hno⟩
  repeat (refine aw_seq ?_)
  refine aw_region ?_
  refine ao1 (by decide) (o_move (v := .int _ _) rfl) ?_
  refine ao1 (by decide) (o_move (v := .str _) rfl) ?_
  refine ao1 (by decide) (o_lenStr rfl) ?_
  refine ao1 (by decide) (o_lt rfl rfl) ?_
  refine ao_nil ?_
  repeat (refine then_nrm ?_)
  refine aw_cond rfl (fun hc => ?_) (fun hc => ?_)
  · have hlt : k < s.size := by simp at hc; omega
    obtain ⟨b, h1, h2, h3⟩ := str_get hlt
    have hbm := List.mem_of_getElem? h2
    repeat (first | refine then_nrm ?_ | refine aw_seq ?_ | refine aw_block ?_ | refine aw_skip ?_)
    refine aw_out 33 (.bool (!tagb b)) ?_ ?_
    · refine ao1 (by decide) (o_move (v := .str _) rfl) ?_
      refine ao1 (by decide) (o_move (v := .int _ _) rfl) ?_
      refine ao1 (by decide) (o_indexStr rfl rfl (by omega) h1) ?_
      refine ao1 (by decide) (o_ge rfl rfl) ?_
      refine ao1 (by decide) (o_move (v := .bool _) rfl) ?_
      refine ao_split rfl rfl (fun hg4 => ?_) (fun hg4 => ?_)
      · refine ao_y1 rfl rfl (by decide) (o_move (v := .str _) rfl) ?_
        refine ao_y1 rfl rfl (by decide) (o_move (v := .int _ _) rfl) ?_
        refine ao_y1 rfl rfl (by decide) (o_indexStr rfl rfl (by omega) h1) ?_
        refine ao_y1 rfl rfl (by decide) (o_le rfl rfl) ?_
        refine ao1 (by decide) (o_pick_t (v := .bool _) rfl rfl) ?_
        refine ao1 (by decide) (o_not rfl) ?_
        refine ao1 (by decide) (o_move (v := .bool _) rfl) ?_
        refine ao_split rfl rfl (fun hg11 => ?_) (fun hg11 => ?_)
        · refine ao_y1 rfl rfl (by decide) (o_move (v := .str _) rfl) ?_
          refine ao_y1 rfl rfl (by decide) (o_move (v := .int _ _) rfl) ?_
          refine ao_y1 rfl rfl (by decide) (o_indexStr rfl rfl (by omega) h1) ?_
          refine ao_y1 rfl rfl (by decide) (o_ge rfl rfl) ?_
          refine ao_y1 rfl rfl (by decide) (o_move (v := .bool _) rfl) ?_
          refine ao_split rfl rfl (fun hg16 => ?_) (fun hg16 => ?_)
          · refine ao_y1 rfl rfl (by decide) (o_move (v := .str _) rfl) ?_
            refine ao_y1 rfl rfl (by decide) (o_move (v := .int _ _) rfl) ?_
            refine ao_y1 rfl rfl (by decide) (o_indexStr rfl rfl (by omega) h1) ?_
            refine ao_y1 rfl rfl (by decide) (o_le rfl rfl) ?_
            refine ao_y1 rfl rfl (by decide) (o_pick_t (v := .bool _) rfl rfl) ?_
            refine ao_y1 rfl rfl (by decide) (o_not rfl) ?_
            refine ao1 (by decide) (o_pick_t (v := .bool _) rfl rfl) ?_
            exact ao_nil (Out.mk (by (refine congrArg AV.bool ?_; simp only [tagb, inLet] at *; grind)) (by repeat (first | exact SubX.refl _ _ | refine SubX.at ?_ | refine SubX.put rfl ?_)))
          · refine ao_nT rfl rfl (by decide) ?_
            refine ao_nT rfl rfl (by decide) ?_
            refine ao_nT rfl rfl (by decide) ?_
            refine ao_nT rfl rfl (by decide) ?_
            refine ao_y1 rfl rfl (by decide) (o_pick_f (v := .bool _) rfl rfl) ?_
            refine ao_y1 rfl rfl (by decide) (o_not rfl) ?_
            refine ao1 (by decide) (o_pick_t (v := .bool _) rfl rfl) ?_
            exact ao_nil (Out.mk (by (refine congrArg AV.bool ?_; simp only [tagb, inLet] at *; grind)) (by repeat (first | exact SubX.refl _ _ | refine SubX.at ?_ | refine SubX.put rfl ?_)))
        · refine ao_nT rfl rfl (by decide) ?_
          refine ao_nT rfl rfl (by decide) ?_
          refine ao_nT rfl rfl (by decide) ?_
          refine ao_nT rfl rfl (by decide) ?_
          refine ao_nT rfl rfl (by decide) ?_
          refine ao_nU rfl rfl (by decide) ?_
          refine ao_nU rfl rfl (by decide) ?_
          refine ao_nU rfl rfl (by decide) ?_
          refine ao_nU rfl rfl (by decide) ?_
          refine ao_nT rfl rfl (by decide) ?_
          refine ao_nT rfl rfl (by decide) ?_
          refine ao1 (by decide) (o_pick_f (v := .bool _) rfl rfl) ?_
          exact ao_nil (Out.mk (by (refine congrArg AV.bool ?_; simp only [tagb, inLet] at *; grind)) (by repeat (first | exact SubX.refl _ _ | refine SubX.at ?_ | refine SubX.put rfl ?_)))
      · refine ao_nT rfl rfl (by decide) ?_
        refine ao_nT rfl rfl (by decide) ?_
        refine ao_nT rfl rfl (by decide) ?_
        refine ao_nT rfl rfl (by decide) ?_
        refine ao1 (by decide) (o_pick_f (v := .bool _) rfl rfl) ?_
        refine ao1 (by decide) (o_not rfl) ?_
        refine ao1 (by decide) (o_move (v := .bool _) rfl) ?_
        refine ao_y1 rfl rfl (by decide) (o_move (v := .str _) rfl) ?_
        refine ao_y1 rfl rfl (by decide) (o_move (v := .int _ _) rfl) ?_
        refine ao_y1 rfl rfl (by decide) (o_indexStr rfl rfl (by omega) h1) ?_
        refine ao_y1 rfl rfl (by decide) (o_ge rfl rfl) ?_
        refine ao_y1 rfl rfl (by decide) (o_move (v := .bool _) rfl) ?_
        refine ao_split rfl rfl (fun hg16 => ?_) (fun hg16 => ?_)
        · refine ao_y1 rfl rfl (by decide) (o_move (v := .str _) rfl) ?_
          refine ao_y1 rfl rfl (by decide) (o_move (v := .int _ _) rfl) ?_
          refine ao_y1 rfl rfl (by decide) (o_indexStr rfl rfl (by omega) h1) ?_
          refine ao_y1 rfl rfl (by decide) (o_le rfl rfl) ?_
          refine ao_y1 rfl rfl (by decide) (o_pick_t (v := .bool _) rfl rfl) ?_
          refine ao_y1 rfl rfl (by decide) (o_not rfl) ?_
          refine ao1 (by decide) (o_pick_t (v := .bool _) rfl rfl) ?_
          exact ao_nil (Out.mk (by (refine congrArg AV.bool ?_; simp only [tagb, inLet] at *; grind)) (by repeat (first | exact SubX.refl _ _ | refine SubX.at ?_ | refine SubX.put rfl ?_)))
        · refine ao_nT rfl rfl (by decide) ?_
          refine ao_nT rfl rfl (by decide) ?_
          refine ao_nT rfl rfl (by decide) ?_
          refine ao_nT rfl rfl (by decide) ?_
          refine ao_y1 rfl rfl (by decide) (o_pick_f (v := .bool _) rfl rfl) ?_
          refine ao_y1 rfl rfl (by decide) (o_not rfl) ?_
          refine ao1 (by decide) (o_pick_t (v := .bool _) rfl rfl) ?_
          exact ao_nil (Out.mk (by (refine congrArg AV.bool ?_; simp only [tagb, inLet] at *; grind)) (by repeat (first | exact SubX.refl _ _ | refine SubX.at ?_ | refine SubX.put rfl ?_)))
    repeat (refine then_nrm ?_)
    refine aw_cond rfl (fun hc => ?_) (fun hc => ?_)
    · repeat (refine aw_seq ?_)
      refine aw_region ?_
      refine ao1 (by decide) (o_assign (v := .bool _) rfl) ?_
      refine ao_nil ?_
      repeat (first | refine then_nrm ?_ | refine then_ret ?_ | refine blk_ret ?_ | refine aw_ret ?_)
      rw [show tagok s = false by rw [tagok, all_fail hbm (by simpa using hc), Bool.and_false]]
      exact e_done hB (r_tmp rfl .nil) rfl rfl
    · repeat (first | refine then_nrm ?_ | refine blk_nrm ?_ | refine aw_skip ?_)
      refine aw_region ?_
      refine ao1 (by decide) (o_move (v := .int _ _) rfl) ?_
      refine ao1 (by decide) (o_add rfl rfl (wrap64_ok (by omega) (by omega))) ?_
      refine ao1 (by decide) (o_assign (v := .int _ _) rfl) ?_
      refine ao_nil ?_
      repeat (refine then_nrm ?_)
      exact ⟨k + 1, by omega, ⟨by omega, all_step h2 hno (by simpa using hc)⟩, (by repeat (first | exact Sub.nil | refine Sub.cons (by rfl) ?_)), .refl _ _⟩
  · have : k = s.size := by simp at hc; omega
    subst this
    rw [← str_len, List.take_length] at hno
    rw [show tagok s = decide ((s.size : Int) ≤ 16) by rw [tagok, hno, Bool.and_true]]
    repeat (first | refine then_nrm ?_ | refine then_brk ?_ | refine blk_hit ?_ | refine aw_seq ?_ | refine aw_exit ?_)
    refine aw_region ?_
    refine ao1 (by decide) (o_move (v := .str _) rfl) ?_
    refine ao1 (by decide) (o_lenStr rfl) ?_
    refine ao1 (by decide) (o_le rfl rfl) ?_
    refine ao1 (by decide) (o_assign (v := .bool _) rfl) ?_
    refine ao_nil ?_
    repeat (first | refine then_nrm ?_ | refine aw_ret ?_)
    exact e_done hB (r_tmp rfl .nil) rfl rfl
end Go.Av

namespace Go.Av
open Go.Proofs
set_option maxRecDepth 10000
set_option linter.unusedSimpArgs false
set_option linter.unusedVariables false


structure Spec where
  nodes : Int
  cores : Int
  gpus : Int
  tag : ByteArray
  whole : Bool
  long : Int
  prio : Int
  deriving DecidableEq
abbrev eSpec (s : Spec) : List AV := [.int .i64 s.nodes, .int .i64 s.cores, .int .i64 s.gpus, .str s.tag, .bool s.whole, .int .i64 s.long, .int .i64 s.prio]
def spec0 : Spec := ⟨0, 0, 0, ⟨#[]⟩, false, 0, 0⟩
def smany (s : Spec) : Bool := (decide (1 ≤ s.nodes) && decide (s.nodes ≤ 64)) && (decide (0 ≤ s.cores) && decide (s.cores ≤ 64)) && (decide (0 ≤ s.gpus) && decide (s.gpus ≤ 64))
def ssome (s : Spec) : Bool := s.whole || decide (0 < s.cores) || decide (0 < s.gpus)
def sright (s : Spec) : Bool := smany s && ssome s && tagok s.tag && (decide (1 ≤ s.long) && decide (s.long ≤ 1099511627776)) && (decide (-1000 ≤ s.prio) && decide (s.prio ≤ 1000))
theorem spec_within (n a b : Int) (H : Heap) : AC Try.prog 32 [.int .i64 n, .int .i64 a, .int .i64 b] H (Ret (.bool (decide (a ≤ n) && decide (n ≤ b))) H) := by
  refine AC.body (N := 15) [.tmp 6] Try.func32 rfl rfl rfl (Nat.le_of_ble_eq_true rfl) fun B hB => ?_
  repeat (refine aw_seq ?_)
  refine aw_region ?_
  refine ao1 (by decide) (o_assign (v := .bool _) rfl) ?_
  refine ao_nil ?_
  repeat (first | refine then_nrm ?_ | refine aw_seq ?_)
  refine aw_out 6 (.bool (decide (a ≤ n) && decide (n ≤ b))) ?_ ?_
  · refine ao1 (by decide) (o_move (v := .int _ _) rfl) ?_
    refine ao1 (by decide) (o_move (v := .int _ _) rfl) ?_
    refine ao1 (by decide) (o_ge rfl rfl) ?_
    refine ao1 (by decide) (o_move (v := .bool _) rfl) ?_
    refine ao_split rfl rfl (fun hg3 => ?_) (fun hg3 => ?_)
    · refine ao_y1 rfl rfl (by decide) (o_move (v := .int _ _) rfl) ?_
      refine ao_y1 rfl rfl (by decide) (o_move (v := .int _ _) rfl) ?_
      refine ao_y1 rfl rfl (by decide) (o_le rfl rfl) ?_
      refine ao1 (by decide) (o_pick_t (v := .bool _) rfl rfl) ?_
      refine ao1 (by decide) (o_assign (v := .bool _) rfl) ?_
      exact ao_nil (Out.mk (by (refine congrArg AV.bool ?_; (refine Bool.eq_iff_iff.mpr ?_; simp only [Bool.and_eq_true, Bool.or_eq_true, Bool.not_eq_true', decide_eq_true_eq, decide_eq_false_iff_not, beq_iff_eq, bne_iff_ne, beq_eq_false_iff_ne, Bool.false_eq_true, Bool.true_eq_false, Bool.and_eq_false_iff, Bool.or_eq_false_iff, List.length_map, false_iff, true_iff, iff_true, iff_false] at *; omega))) (by repeat (first | exact SubX.refl _ _ | refine SubX.at ?_ | refine SubX.put rfl ?_)))
    · refine ao_nT rfl rfl (by decide) ?_
      refine ao_nT rfl rfl (by decide) ?_
      refine ao_nT rfl rfl (by decide) ?_
      refine ao1 (by decide) (o_pick_f (v := .bool _) rfl rfl) ?_
      refine ao1 (by decide) (o_assign (v := .bool _) rfl) ?_
      exact ao_nil (Out.mk (by (refine congrArg AV.bool ?_; (refine Bool.eq_iff_iff.mpr ?_; simp only [Bool.and_eq_true, Bool.or_eq_true, Bool.not_eq_true', decide_eq_true_eq, decide_eq_false_iff_not, beq_iff_eq, bne_iff_ne, beq_eq_false_iff_ne, Bool.false_eq_true, Bool.true_eq_false, Bool.and_eq_false_iff, Bool.or_eq_false_iff, List.length_map, false_iff, true_iff, iff_true, iff_false] at *; omega))) (by repeat (first | exact SubX.refl _ _ | refine SubX.at ?_ | refine SubX.put rfl ?_)))
  repeat (first | refine then_nrm ?_ | refine aw_ret ?_)
  exact e_done hB (r_tmp rfl .nil) rfl rfl
theorem spec_within64 (n a b : Int) (H : Heap) : AC Try.prog 34 [.int .i64 n, .int .i64 a, .int .i64 b] H (Ret (.bool (decide (a ≤ n) && decide (n ≤ b))) H) := by
  refine AC.body (N := 15) [.tmp 6] Try.func34 rfl rfl rfl (Nat.le_of_ble_eq_true rfl) fun B hB => ?_
  repeat (refine aw_seq ?_)
  refine aw_region ?_
  refine ao1 (by decide) (o_assign (v := .bool _) rfl) ?_
  refine ao_nil ?_
  repeat (first | refine then_nrm ?_ | refine aw_seq ?_)
  refine aw_out 6 (.bool (decide (a ≤ n) && decide (n ≤ b))) ?_ ?_
  · refine ao1 (by decide) (o_move (v := .int _ _) rfl) ?_
    refine ao1 (by decide) (o_move (v := .int _ _) rfl) ?_
    refine ao1 (by decide) (o_ge rfl rfl) ?_
    refine ao1 (by decide) (o_move (v := .bool _) rfl) ?_
    refine ao_split rfl rfl (fun hg3 => ?_) (fun hg3 => ?_)
    · refine ao_y1 rfl rfl (by decide) (o_move (v := .int _ _) rfl) ?_
      refine ao_y1 rfl rfl (by decide) (o_move (v := .int _ _) rfl) ?_
      refine ao_y1 rfl rfl (by decide) (o_le rfl rfl) ?_
      refine ao1 (by decide) (o_pick_t (v := .bool _) rfl rfl) ?_
      refine ao1 (by decide) (o_assign (v := .bool _) rfl) ?_
      exact ao_nil (Out.mk (by (refine congrArg AV.bool ?_; (refine Bool.eq_iff_iff.mpr ?_; simp only [Bool.and_eq_true, Bool.or_eq_true, Bool.not_eq_true', decide_eq_true_eq, decide_eq_false_iff_not, beq_iff_eq, bne_iff_ne, beq_eq_false_iff_ne, Bool.false_eq_true, Bool.true_eq_false, Bool.and_eq_false_iff, Bool.or_eq_false_iff, List.length_map, false_iff, true_iff, iff_true, iff_false] at *; omega))) (by repeat (first | exact SubX.refl _ _ | refine SubX.at ?_ | refine SubX.put rfl ?_)))
    · refine ao_nT rfl rfl (by decide) ?_
      refine ao_nT rfl rfl (by decide) ?_
      refine ao_nT rfl rfl (by decide) ?_
      refine ao1 (by decide) (o_pick_f (v := .bool _) rfl rfl) ?_
      refine ao1 (by decide) (o_assign (v := .bool _) rfl) ?_
      exact ao_nil (Out.mk (by (refine congrArg AV.bool ?_; (refine Bool.eq_iff_iff.mpr ?_; simp only [Bool.and_eq_true, Bool.or_eq_true, Bool.not_eq_true', decide_eq_true_eq, decide_eq_false_iff_not, beq_iff_eq, bne_iff_ne, beq_eq_false_iff_ne, Bool.false_eq_true, Bool.true_eq_false, Bool.and_eq_false_iff, Bool.or_eq_false_iff, List.length_map, false_iff, true_iff, iff_true, iff_false] at *; omega))) (by repeat (first | exact SubX.refl _ _ | refine SubX.at ?_ | refine SubX.put rfl ?_)))
  repeat (first | refine then_nrm ?_ | refine aw_ret ?_)
  exact e_done hB (r_tmp rfl .nil) rfl rfl
theorem spec_Right (s : Spec) (H : Heap) : AC Try.prog 16 [.agg (eSpec s)] H (Ret (.bool (sright s)) H) := by
  refine AC.body (N := 49) [.tmp 2] Try.func16 rfl rfl rfl (Nat.le_of_ble_eq_true rfl) fun B hB => ?_
  repeat (refine aw_seq ?_)
  refine aw_region ?_
  refine ao2 (by rintro _ ⟨⟩; decide) (o_boxL (sz := 7) (v := .agg _) rfl rfl rfl rfl (by decide) rfl) ?_
  refine ao1 (by decide) (o_assign (v := .bool _) rfl) ?_
  refine ao_nil ?_
  try dsimp only [List.length_nil, put, AV.cells, List.nil_append]
  repeat (first | refine then_nrm ?_ | refine aw_seq ?_)
  refine aw_out 3 (.bool (smany s)) ?_ ?_
  · refine ao1 (by decide) (w_fieldAddr rfl (lk rfl rfl) rfl (by decide)) ?_
    refine ao1 (by decide) (w_load1 (v := .int _ _) rfl (lk rfl rfl) rfl rfl rfl) ?_
    refine ao_ret (spec_within _ _ _ _) rfl (by decide) ?_
    refine ao1 (by decide) (o_move (v := .bool _) rfl) ?_
    refine ao_split rfl rfl (fun hg3 => ?_) (fun hg3 => ?_)
    · refine ao_y1 rfl rfl (by decide) (w_fieldAddr rfl (lk rfl rfl) rfl (by decide)) ?_
      refine ao_y1 rfl rfl (by decide) (w_load1 (v := .int _ _) rfl (lk rfl rfl) rfl rfl rfl) ?_
      refine ao_y rfl rfl (by decide) (V2.call (spec_within _ _ _ _) rfl) ?_
      refine ao1 (by decide) (o_pick_t (v := .bool _) rfl rfl) ?_
      refine ao1 (by decide) (o_move (v := .bool _) rfl) ?_
      refine ao_split rfl rfl (fun hg8 => ?_) (fun hg8 => ?_)
      · refine ao_y1 rfl rfl (by decide) (w_fieldAddr rfl (lk rfl rfl) rfl (by decide)) ?_
        refine ao_y1 rfl rfl (by decide) (w_load1 (v := .int _ _) rfl (lk rfl rfl) rfl rfl rfl) ?_
        refine ao_y rfl rfl (by decide) (V2.call (spec_within _ _ _ _) rfl) ?_
        refine ao1 (by decide) (o_pick_t (v := .bool _) rfl rfl) ?_
        refine ao1 (by decide) (o_assign (v := .bool _) rfl) ?_
        exact ao_nil (Out.mk (by (refine congrArg AV.bool ?_; (simp only [smany] at *; (simp_all; done)))) (by repeat (first | exact SubX.refl _ _ | refine SubX.at ?_ | refine SubX.put rfl ?_)))
      · refine ao_nT rfl rfl (by decide) ?_
        refine ao_nT rfl rfl (by decide) ?_
        refine ao_nT rfl rfl (by decide) ?_
        refine ao1 (by decide) (o_pick_f (v := .bool _) rfl rfl) ?_
        refine ao1 (by decide) (o_assign (v := .bool _) rfl) ?_
        exact ao_nil (Out.mk (by (refine congrArg AV.bool ?_; (simp only [smany] at *; (simp_all; omega)))) (by repeat (first | exact SubX.refl _ _ | refine SubX.at ?_ | refine SubX.put rfl ?_)))
    · refine ao_nT rfl rfl (by decide) ?_
      refine ao_nT rfl rfl (by decide) ?_
      refine ao_nT rfl rfl (by decide) ?_
      refine ao1 (by decide) (o_pick_f (v := .bool _) rfl rfl) ?_
      refine ao1 (by decide) (o_move (v := .bool _) rfl) ?_
      refine ao_nT rfl rfl (by decide) ?_
      refine ao_nT rfl rfl (by decide) ?_
      refine ao_nT rfl rfl (by decide) ?_
      refine ao1 (by decide) (o_pick_f (v := .bool _) rfl rfl) ?_
      refine ao1 (by decide) (o_assign (v := .bool _) rfl) ?_
      exact ao_nil (Out.mk (by (refine congrArg AV.bool ?_; (simp only [smany] at *; (simp_all; omega)))) (by repeat (first | exact SubX.refl _ _ | refine SubX.at ?_ | refine SubX.put rfl ?_)))
  repeat (first | refine then_nrm ?_ | refine aw_seq ?_)
  refine aw_out 4 (.bool (ssome s)) ?_ ?_
  · refine ao1 (by decide) (w_fieldAddr rfl (lk rfl rfl) rfl (by decide)) ?_
    refine ao1 (by decide) (w_load1 (v := .bool _) rfl (lk rfl rfl) rfl rfl rfl) ?_
    refine ao1 (by decide) (o_move (v := .bool _) rfl) ?_
    refine ao_split rfl rfl (fun hg2 => ?_) (fun hg2 => ?_)
    · refine ao_nF rfl rfl (by decide) ?_
      refine ao_nF rfl rfl (by decide) ?_
      refine ao_nF rfl rfl (by decide) ?_
      refine ao1 (by decide) (o_pick_t (v := .bool _) rfl rfl) ?_
      refine ao1 (by decide) (o_move (v := .bool _) rfl) ?_
      refine ao_nF rfl rfl (by decide) ?_
      refine ao_nF rfl rfl (by decide) ?_
      refine ao_nF rfl rfl (by decide) ?_
      refine ao1 (by decide) (o_pick_t (v := .bool _) rfl rfl) ?_
      refine ao1 (by decide) (o_assign (v := .bool _) rfl) ?_
      exact ao_nil (Out.mk (by (refine congrArg AV.bool ?_; (simp only [ssome] at *; (simp_all; done)))) (by repeat (first | exact SubX.refl _ _ | refine SubX.at ?_ | refine SubX.put rfl ?_)))
    · refine ao_y1 rfl rfl (by decide) (w_fieldAddr rfl (lk rfl rfl) rfl (by decide)) ?_
      refine ao_y1 rfl rfl (by decide) (w_load1 (v := .int _ _) rfl (lk rfl rfl) rfl rfl rfl) ?_
      refine ao_y1 rfl rfl (by decide) (o_gt rfl rfl) ?_
      refine ao1 (by decide) (o_pick_f (v := .bool _) rfl rfl) ?_
      refine ao1 (by decide) (o_move (v := .bool _) rfl) ?_
      refine ao_split rfl rfl (fun hg7 => ?_) (fun hg7 => ?_)
      · refine ao_nF rfl rfl (by decide) ?_
        refine ao_nF rfl rfl (by decide) ?_
        refine ao_nF rfl rfl (by decide) ?_
        refine ao1 (by decide) (o_pick_t (v := .bool _) rfl rfl) ?_
        refine ao1 (by decide) (o_assign (v := .bool _) rfl) ?_
        exact ao_nil (Out.mk (by (refine congrArg AV.bool ?_; (simp only [ssome] at *; (simp_all; done)))) (by repeat (first | exact SubX.refl _ _ | refine SubX.at ?_ | refine SubX.put rfl ?_)))
      · refine ao_y1 rfl rfl (by decide) (w_fieldAddr rfl (lk rfl rfl) rfl (by decide)) ?_
        refine ao_y1 rfl rfl (by decide) (w_load1 (v := .int _ _) rfl (lk rfl rfl) rfl rfl rfl) ?_
        refine ao_y1 rfl rfl (by decide) (o_gt rfl rfl) ?_
        refine ao1 (by decide) (o_pick_f (v := .bool _) rfl rfl) ?_
        refine ao1 (by decide) (o_assign (v := .bool _) rfl) ?_
        exact ao_nil (Out.mk (by (refine congrArg AV.bool ?_; (simp only [ssome] at *; (simp_all; omega)))) (by repeat (first | exact SubX.refl _ _ | refine SubX.at ?_ | refine SubX.put rfl ?_)))
  repeat (first | refine then_nrm ?_ | refine aw_seq ?_)
  refine aw_out 2 (.bool (sright s)) ?_ ?_
  · refine ao1 (by decide) (o_move (v := .bool _) rfl) ?_
    refine ao1 (by decide) (o_move (v := .bool _) rfl) ?_
    refine ao_split rfl rfl (fun hg1 => ?_) (fun hg1 => ?_)
    · refine ao_y1 rfl rfl (by decide) (o_move (v := .bool _) rfl) ?_
      refine ao1 (by decide) (o_pick_t (v := .bool _) rfl rfl) ?_
      refine ao1 (by decide) (o_move (v := .bool _) rfl) ?_
      refine ao_split rfl rfl (fun hg4 => ?_) (fun hg4 => ?_)
      · refine ao_y1 rfl rfl (by decide) (w_fieldAddr rfl (lk rfl rfl) rfl (by decide)) ?_
        refine ao_y1 rfl rfl (by decide) (w_load1 (v := .str _) rfl (lk rfl rfl) rfl rfl rfl) ?_
        refine ao_y rfl rfl (by decide) (V2.call (graph_Tag _ _) rfl) ?_
        refine ao1 (by decide) (o_pick_t (v := .bool _) rfl rfl) ?_
        refine ao1 (by decide) (o_move (v := .bool _) rfl) ?_
        refine ao_split rfl rfl (fun hg9 => ?_) (fun hg9 => ?_)
        · refine ao_y1 rfl rfl (by decide) (w_fieldAddr rfl (lk rfl rfl) rfl (by decide)) ?_
          refine ao_y1 rfl rfl (by decide) (w_load1 (v := .int _ _) rfl (lk rfl rfl) rfl rfl rfl) ?_
          refine ao_y rfl rfl (by decide) (V2.call (spec_within64 _ _ _ _) rfl) ?_
          refine ao1 (by decide) (o_pick_t (v := .bool _) rfl rfl) ?_
          refine ao1 (by decide) (o_move (v := .bool _) rfl) ?_
          refine ao_split rfl rfl (fun hg14 => ?_) (fun hg14 => ?_)
          · refine ao_y1 rfl rfl (by decide) (w_fieldAddr rfl (lk rfl rfl) rfl (by decide)) ?_
            refine ao_y1 rfl rfl (by decide) (w_load1 (v := .int _ _) rfl (lk rfl rfl) rfl rfl rfl) ?_
            refine ao_y rfl rfl (by decide) (V2.call (spec_within _ _ _ _) rfl) ?_
            refine ao1 (by decide) (o_pick_t (v := .bool _) rfl rfl) ?_
            refine ao1 (by decide) (o_assign (v := .bool _) rfl) ?_
            exact ao_nil (Out.mk (by (refine congrArg AV.bool ?_; (simp only [sright] at *; (simp_all; done)))) (by repeat (first | exact SubX.refl _ _ | refine SubX.at ?_ | refine SubX.put rfl ?_)))
          · refine ao_nT rfl rfl (by decide) ?_
            refine ao_nT rfl rfl (by decide) ?_
            refine ao_nT rfl rfl (by decide) ?_
            refine ao1 (by decide) (o_pick_f (v := .bool _) rfl rfl) ?_
            refine ao1 (by decide) (o_assign (v := .bool _) rfl) ?_
            exact ao_nil (Out.mk (by (refine congrArg AV.bool ?_; (simp only [sright] at *; (simp_all; omega)))) (by repeat (first | exact SubX.refl _ _ | refine SubX.at ?_ | refine SubX.put rfl ?_)))
        · refine ao_nT rfl rfl (by decide) ?_
          refine ao_nT rfl rfl (by decide) ?_
          refine ao_nT rfl rfl (by decide) ?_
          refine ao1 (by decide) (o_pick_f (v := .bool _) rfl rfl) ?_
          refine ao1 (by decide) (o_move (v := .bool _) rfl) ?_
          refine ao_nT rfl rfl (by decide) ?_
          refine ao_nT rfl rfl (by decide) ?_
          refine ao_nT rfl rfl (by decide) ?_
          refine ao1 (by decide) (o_pick_f (v := .bool _) rfl rfl) ?_
          refine ao1 (by decide) (o_assign (v := .bool _) rfl) ?_
          exact ao_nil (Out.mk (by (refine congrArg AV.bool ?_; (simp only [sright] at *; (simp_all; done)))) (by repeat (first | exact SubX.refl _ _ | refine SubX.at ?_ | refine SubX.put rfl ?_)))
      · refine ao_nT rfl rfl (by decide) ?_
        refine ao_nT rfl rfl (by decide) ?_
        refine ao_nT rfl rfl (by decide) ?_
        refine ao1 (by decide) (o_pick_f (v := .bool _) rfl rfl) ?_
        refine ao1 (by decide) (o_move (v := .bool _) rfl) ?_
        refine ao_nT rfl rfl (by decide) ?_
        refine ao_nT rfl rfl (by decide) ?_
        refine ao_nT rfl rfl (by decide) ?_
        refine ao1 (by decide) (o_pick_f (v := .bool _) rfl rfl) ?_
        refine ao1 (by decide) (o_move (v := .bool _) rfl) ?_
        refine ao_nT rfl rfl (by decide) ?_
        refine ao_nT rfl rfl (by decide) ?_
        refine ao_nT rfl rfl (by decide) ?_
        refine ao1 (by decide) (o_pick_f (v := .bool _) rfl rfl) ?_
        refine ao1 (by decide) (o_assign (v := .bool _) rfl) ?_
        exact ao_nil (Out.mk (by (refine congrArg AV.bool ?_; (simp only [sright] at *; (simp_all; done)))) (by repeat (first | exact SubX.refl _ _ | refine SubX.at ?_ | refine SubX.put rfl ?_)))
    · refine ao_nT rfl rfl (by decide) ?_
      refine ao1 (by decide) (o_pick_f (v := .bool _) rfl rfl) ?_
      refine ao1 (by decide) (o_move (v := .bool _) rfl) ?_
      refine ao_nT rfl rfl (by decide) ?_
      refine ao_nT rfl rfl (by decide) ?_
      refine ao_nT rfl rfl (by decide) ?_
      refine ao1 (by decide) (o_pick_f (v := .bool _) rfl rfl) ?_
      refine ao1 (by decide) (o_move (v := .bool _) rfl) ?_
      refine ao_nT rfl rfl (by decide) ?_
      refine ao_nT rfl rfl (by decide) ?_
      refine ao_nT rfl rfl (by decide) ?_
      refine ao1 (by decide) (o_pick_f (v := .bool _) rfl rfl) ?_
      refine ao1 (by decide) (o_move (v := .bool _) rfl) ?_
      refine ao_nT rfl rfl (by decide) ?_
      refine ao_nT rfl rfl (by decide) ?_
      refine ao_nT rfl rfl (by decide) ?_
      refine ao1 (by decide) (o_pick_f (v := .bool _) rfl rfl) ?_
      refine ao1 (by decide) (o_assign (v := .bool _) rfl) ?_
      exact ao_nil (Out.mk (by (refine congrArg AV.bool ?_; (simp only [sright] at *; (simp_all; done)))) (by repeat (first | exact SubX.refl _ _ | refine SubX.at ?_ | refine SubX.put rfl ?_)))
  repeat (first | refine then_nrm ?_ | refine aw_ret ?_)
  exact e_done hB (r_tmp rfl .nil) rfl rfl
theorem ref07_Right (s : Spec) (H : Heap) (ht : s.tag.size ≤ 9223372036854775807) : AC Try.prog 26 [.agg (eSpec s)] H (Ret (.bool (sright s)) H) := by
  refine AC.body (N := 67) [.tmp 2] Try.func26 rfl rfl rfl (Nat.le_of_ble_eq_true rfl) fun B hB => ?_
  repeat (refine aw_seq ?_)
  refine aw_region ?_
  refine ao2 (by rintro _ ⟨⟩; decide) (o_boxL (sz := 7) (v := .agg _) rfl rfl rfl rfl (by decide) rfl) ?_
  refine ao1 (by decide) (o_assign (v := .bool _) rfl) ?_
  refine ao_nil ?_
  try dsimp only [List.length_nil, put, AV.cells, List.nil_append]
  repeat (first | refine then_nrm ?_ | refine aw_seq ?_)
  refine aw_out 30 (.bool (!smany s)) ?_ ?_
  · refine ao1 (by decide) (w_fieldAddr rfl (lk rfl rfl) rfl (by decide)) ?_
    refine ao1 (by decide) (w_load1 (v := .int _ _) rfl (lk rfl rfl) rfl rfl rfl) ?_
    refine ao1 (by decide) (o_lt rfl rfl) ?_
    refine ao1 (by decide) (o_move (v := .bool _) rfl) ?_
    refine ao_split rfl rfl (fun hg3 => ?_) (fun hg3 => ?_)
    · refine ao_nF rfl rfl (by decide) ?_
      refine ao_nF rfl rfl (by decide) ?_
      refine ao_nF rfl rfl (by decide) ?_
      refine ao1 (by decide) (o_pick_t (v := .bool _) rfl rfl) ?_
      refine ao1 (by decide) (o_move (v := .bool _) rfl) ?_
      refine ao_nF rfl rfl (by decide) ?_
      refine ao_nF rfl rfl (by decide) ?_
      refine ao_nF rfl rfl (by decide) ?_
      refine ao1 (by decide) (o_pick_t (v := .bool _) rfl rfl) ?_
      refine ao1 (by decide) (o_move (v := .bool _) rfl) ?_
      refine ao_nF rfl rfl (by decide) ?_
      refine ao_nF rfl rfl (by decide) ?_
      refine ao_nF rfl rfl (by decide) ?_
      refine ao1 (by decide) (o_pick_t (v := .bool _) rfl rfl) ?_
      refine ao1 (by decide) (o_move (v := .bool _) rfl) ?_
      refine ao_nF rfl rfl (by decide) ?_
      refine ao_nF rfl rfl (by decide) ?_
      refine ao_nF rfl rfl (by decide) ?_
      refine ao1 (by decide) (o_pick_t (v := .bool _) rfl rfl) ?_
      refine ao1 (by decide) (o_move (v := .bool _) rfl) ?_
      refine ao_nF rfl rfl (by decide) ?_
      refine ao_nF rfl rfl (by decide) ?_
      refine ao_nF rfl rfl (by decide) ?_
      refine ao1 (by decide) (o_pick_t (v := .bool _) rfl rfl) ?_
      exact ao_nil (Out.mk (by (refine congrArg AV.bool ?_; (simp only [smany] at *; (simp_all; done)))) (by repeat (first | exact SubX.refl _ _ | refine SubX.at ?_ | refine SubX.put rfl ?_)))
    · refine ao_y1 rfl rfl (by decide) (w_fieldAddr rfl (lk rfl rfl) rfl (by decide)) ?_
      refine ao_y1 rfl rfl (by decide) (w_load1 (v := .int _ _) rfl (lk rfl rfl) rfl rfl rfl) ?_
      refine ao_y1 rfl rfl (by decide) (o_gt rfl rfl) ?_
      refine ao1 (by decide) (o_pick_f (v := .bool _) rfl rfl) ?_
      refine ao1 (by decide) (o_move (v := .bool _) rfl) ?_
      refine ao_split rfl rfl (fun hg8 => ?_) (fun hg8 => ?_)
      · refine ao_nF rfl rfl (by decide) ?_
        refine ao_nF rfl rfl (by decide) ?_
        refine ao_nF rfl rfl (by decide) ?_
        refine ao1 (by decide) (o_pick_t (v := .bool _) rfl rfl) ?_
        refine ao1 (by decide) (o_move (v := .bool _) rfl) ?_
        refine ao_nF rfl rfl (by decide) ?_
        refine ao_nF rfl rfl (by decide) ?_
        refine ao_nF rfl rfl (by decide) ?_
        refine ao1 (by decide) (o_pick_t (v := .bool _) rfl rfl) ?_
        refine ao1 (by decide) (o_move (v := .bool _) rfl) ?_
        refine ao_nF rfl rfl (by decide) ?_
        refine ao_nF rfl rfl (by decide) ?_
        refine ao_nF rfl rfl (by decide) ?_
        refine ao1 (by decide) (o_pick_t (v := .bool _) rfl rfl) ?_
        refine ao1 (by decide) (o_move (v := .bool _) rfl) ?_
        refine ao_nF rfl rfl (by decide) ?_
        refine ao_nF rfl rfl (by decide) ?_
        refine ao_nF rfl rfl (by decide) ?_
        refine ao1 (by decide) (o_pick_t (v := .bool _) rfl rfl) ?_
        exact ao_nil (Out.mk (by (refine congrArg AV.bool ?_; (simp only [smany] at *; (simp_all; done)))) (by repeat (first | exact SubX.refl _ _ | refine SubX.at ?_ | refine SubX.put rfl ?_)))
      · refine ao_y1 rfl rfl (by decide) (w_fieldAddr rfl (lk rfl rfl) rfl (by decide)) ?_
        refine ao_y1 rfl rfl (by decide) (w_load1 (v := .int _ _) rfl (lk rfl rfl) rfl rfl rfl) ?_
        refine ao_y1 rfl rfl (by decide) (o_lt rfl rfl) ?_
        refine ao1 (by decide) (o_pick_f (v := .bool _) rfl rfl) ?_
        refine ao1 (by decide) (o_move (v := .bool _) rfl) ?_
        refine ao_split rfl rfl (fun hg13 => ?_) (fun hg13 => ?_)
        · refine ao_nF rfl rfl (by decide) ?_
          refine ao_nF rfl rfl (by decide) ?_
          refine ao_nF rfl rfl (by decide) ?_
          refine ao1 (by decide) (o_pick_t (v := .bool _) rfl rfl) ?_
          refine ao1 (by decide) (o_move (v := .bool _) rfl) ?_
          refine ao_nF rfl rfl (by decide) ?_
          refine ao_nF rfl rfl (by decide) ?_
          refine ao_nF rfl rfl (by decide) ?_
          refine ao1 (by decide) (o_pick_t (v := .bool _) rfl rfl) ?_
          refine ao1 (by decide) (o_move (v := .bool _) rfl) ?_
          refine ao_nF rfl rfl (by decide) ?_
          refine ao_nF rfl rfl (by decide) ?_
          refine ao_nF rfl rfl (by decide) ?_
          refine ao1 (by decide) (o_pick_t (v := .bool _) rfl rfl) ?_
          exact ao_nil (Out.mk (by (refine congrArg AV.bool ?_; (simp only [smany] at *; (simp_all; done)))) (by repeat (first | exact SubX.refl _ _ | refine SubX.at ?_ | refine SubX.put rfl ?_)))
        · refine ao_y1 rfl rfl (by decide) (w_fieldAddr rfl (lk rfl rfl) rfl (by decide)) ?_
          refine ao_y1 rfl rfl (by decide) (w_load1 (v := .int _ _) rfl (lk rfl rfl) rfl rfl rfl) ?_
          refine ao_y1 rfl rfl (by decide) (o_gt rfl rfl) ?_
          refine ao1 (by decide) (o_pick_f (v := .bool _) rfl rfl) ?_
          refine ao1 (by decide) (o_move (v := .bool _) rfl) ?_
          refine ao_split rfl rfl (fun hg18 => ?_) (fun hg18 => ?_)
          · refine ao_nF rfl rfl (by decide) ?_
            refine ao_nF rfl rfl (by decide) ?_
            refine ao_nF rfl rfl (by decide) ?_
            refine ao1 (by decide) (o_pick_t (v := .bool _) rfl rfl) ?_
            refine ao1 (by decide) (o_move (v := .bool _) rfl) ?_
            refine ao_nF rfl rfl (by decide) ?_
            refine ao_nF rfl rfl (by decide) ?_
            refine ao_nF rfl rfl (by decide) ?_
            refine ao1 (by decide) (o_pick_t (v := .bool _) rfl rfl) ?_
            exact ao_nil (Out.mk (by (refine congrArg AV.bool ?_; (simp only [smany] at *; (simp_all; done)))) (by repeat (first | exact SubX.refl _ _ | refine SubX.at ?_ | refine SubX.put rfl ?_)))
          · refine ao_y1 rfl rfl (by decide) (w_fieldAddr rfl (lk rfl rfl) rfl (by decide)) ?_
            refine ao_y1 rfl rfl (by decide) (w_load1 (v := .int _ _) rfl (lk rfl rfl) rfl rfl rfl) ?_
            refine ao_y1 rfl rfl (by decide) (o_lt rfl rfl) ?_
            refine ao1 (by decide) (o_pick_f (v := .bool _) rfl rfl) ?_
            refine ao1 (by decide) (o_move (v := .bool _) rfl) ?_
            refine ao_split rfl rfl (fun hg23 => ?_) (fun hg23 => ?_)
            · refine ao_nF rfl rfl (by decide) ?_
              refine ao_nF rfl rfl (by decide) ?_
              refine ao_nF rfl rfl (by decide) ?_
              refine ao1 (by decide) (o_pick_t (v := .bool _) rfl rfl) ?_
              exact ao_nil (Out.mk (by (refine congrArg AV.bool ?_; (simp only [smany] at *; (simp_all; done)))) (by repeat (first | exact SubX.refl _ _ | refine SubX.at ?_ | refine SubX.put rfl ?_)))
            · refine ao_y1 rfl rfl (by decide) (w_fieldAddr rfl (lk rfl rfl) rfl (by decide)) ?_
              refine ao_y1 rfl rfl (by decide) (w_load1 (v := .int _ _) rfl (lk rfl rfl) rfl rfl rfl) ?_
              refine ao_y1 rfl rfl (by decide) (o_gt rfl rfl) ?_
              refine ao1 (by decide) (o_pick_f (v := .bool _) rfl rfl) ?_
              exact ao_nil (Out.mk (by (refine congrArg AV.bool ?_; (simp only [smany] at *; grind))) (by repeat (first | exact SubX.refl _ _ | refine SubX.at ?_ | refine SubX.put rfl ?_)))
  repeat (refine then_nrm ?_)
  refine aw_cond rfl (fun hc => ?_) (fun hc => ?_)
  · repeat (refine aw_seq ?_)
    refine aw_region ?_
    refine ao1 (by decide) (o_assign (v := .bool _) rfl) ?_
    refine ao_nil ?_
    repeat (first | refine then_nrm ?_ | refine then_ret ?_ | refine aw_ret ?_)
    rw [show sright s = false by simp at hc; simp [sright, hc]]
    exact e_done hB (r_tmp rfl .nil) rfl rfl
  · have hm : smany s = true := by simpa using hc
    have hm' := hm
    simp only [smany, Bool.and_eq_true, decide_eq_true_eq] at hm'
    repeat (first | refine then_nrm ?_ | refine aw_seq ?_ | refine aw_skip ?_)
    refine aw_out 43 (.bool (!ssome s)) ?_ ?_
    · refine ao1 (by decide) (w_fieldAddr rfl (lk rfl rfl) rfl (by decide)) ?_
      refine ao1 (by decide) (w_load1 (v := .int _ _) rfl (lk rfl rfl) rfl rfl rfl) ?_
      refine ao1 (by decide) (o_eq rfl rfl) ?_
      refine ao1 (by decide) (o_move (v := .bool _) rfl) ?_
      refine ao_split rfl rfl (fun hg3 => ?_) (fun hg3 => ?_)
      · refine ao_y1 rfl rfl (by decide) (w_fieldAddr rfl (lk rfl rfl) rfl (by decide)) ?_
        refine ao_y1 rfl rfl (by decide) (w_load1 (v := .int _ _) rfl (lk rfl rfl) rfl rfl rfl) ?_
        refine ao_y1 rfl rfl (by decide) (o_eq rfl rfl) ?_
        refine ao1 (by decide) (o_pick_t (v := .bool _) rfl rfl) ?_
        refine ao1 (by decide) (o_move (v := .bool _) rfl) ?_
        refine ao_split rfl rfl (fun hg8 => ?_) (fun hg8 => ?_)
        · refine ao_y1 rfl rfl (by decide) (w_fieldAddr rfl (lk rfl rfl) rfl (by decide)) ?_
          refine ao_y1 rfl rfl (by decide) (w_load1 (v := .bool _) rfl (lk rfl rfl) rfl rfl rfl) ?_
          refine ao_y1 rfl rfl (by decide) (o_not rfl) ?_
          refine ao1 (by decide) (o_pick_t (v := .bool _) rfl rfl) ?_
          exact ao_nil (Out.mk (by (refine congrArg AV.bool ?_; (simp only [ssome] at *; (simp_all; done)))) (by repeat (first | exact SubX.refl _ _ | refine SubX.at ?_ | refine SubX.put rfl ?_)))
        · refine ao_nT rfl rfl (by decide) ?_
          refine ao_nT rfl rfl (by decide) ?_
          refine ao_nT rfl rfl (by decide) ?_
          refine ao1 (by decide) (o_pick_f (v := .bool _) rfl rfl) ?_
          exact ao_nil (Out.mk (by (refine congrArg AV.bool ?_; (simp only [ssome] at *; (simp_all; omega)))) (by repeat (first | exact SubX.refl _ _ | refine SubX.at ?_ | refine SubX.put rfl ?_)))
      · refine ao_nT rfl rfl (by decide) ?_
        refine ao_nT rfl rfl (by decide) ?_
        refine ao_nT rfl rfl (by decide) ?_
        refine ao1 (by decide) (o_pick_f (v := .bool _) rfl rfl) ?_
        refine ao1 (by decide) (o_move (v := .bool _) rfl) ?_
        refine ao_nT rfl rfl (by decide) ?_
        refine ao_nT rfl rfl (by decide) ?_
        refine ao_nT rfl rfl (by decide) ?_
        refine ao1 (by decide) (o_pick_f (v := .bool _) rfl rfl) ?_
        exact ao_nil (Out.mk (by (refine congrArg AV.bool ?_; (simp only [ssome] at *; (simp_all; omega)))) (by repeat (first | exact SubX.refl _ _ | refine SubX.at ?_ | refine SubX.put rfl ?_)))
    repeat (refine then_nrm ?_)
    refine aw_cond rfl (fun hc => ?_) (fun hc => ?_)
    · repeat (refine aw_seq ?_)
      refine aw_region ?_
      refine ao1 (by decide) (o_assign (v := .bool _) rfl) ?_
      refine ao_nil ?_
      repeat (first | refine then_nrm ?_ | refine then_ret ?_ | refine aw_ret ?_)
      rw [show sright s = false by simp at hc; simp [sright, hc]]
      exact e_done hB (r_tmp rfl .nil) rfl rfl
    · have hs : ssome s = true := by simpa using hc
      repeat (first | refine then_nrm ?_ | refine aw_seq ?_ | refine aw_skip ?_)
      refine aw_out 2 (.bool (sright s)) ?_ ?_
      · refine ao1 (by decide) (w_fieldAddr rfl (lk rfl rfl) rfl (by decide)) ?_
        refine ao1 (by decide) (w_load1 (v := .str _) rfl (lk rfl rfl) rfl rfl rfl) ?_
        refine ao_ret (ref05_Tag _ _ (by assumption)) rfl (by decide) ?_
        refine ao1 (by decide) (o_move (v := .bool _) rfl) ?_
        refine ao_split rfl rfl (fun hg3 => ?_) (fun hg3 => ?_)
        · refine ao_y1 rfl rfl (by decide) (w_fieldAddr rfl (lk rfl rfl) rfl (by decide)) ?_
          refine ao_y1 rfl rfl (by decide) (w_load1 (v := .int _ _) rfl (lk rfl rfl) rfl rfl rfl) ?_
          refine ao_y1 rfl rfl (by decide) (o_ge rfl rfl) ?_
          refine ao1 (by decide) (o_pick_t (v := .bool _) rfl rfl) ?_
          refine ao1 (by decide) (o_move (v := .bool _) rfl) ?_
          refine ao_split rfl rfl (fun hg8 => ?_) (fun hg8 => ?_)
          · refine ao_y1 rfl rfl (by decide) (w_fieldAddr rfl (lk rfl rfl) rfl (by decide)) ?_
            refine ao_y1 rfl rfl (by decide) (w_load1 (v := .int _ _) rfl (lk rfl rfl) rfl rfl rfl) ?_
            refine ao_y1 rfl rfl (by decide) (o_le rfl rfl) ?_
            refine ao1 (by decide) (o_pick_t (v := .bool _) rfl rfl) ?_
            refine ao1 (by decide) (o_move (v := .bool _) rfl) ?_
            refine ao_split rfl rfl (fun hg13 => ?_) (fun hg13 => ?_)
            · refine ao_y1 rfl rfl (by decide) (w_fieldAddr rfl (lk rfl rfl) rfl (by decide)) ?_
              refine ao_y1 rfl rfl (by decide) (w_load1 (v := .int _ _) rfl (lk rfl rfl) rfl rfl rfl) ?_
              refine ao_y1 rfl rfl (by decide) (o_ge rfl rfl) ?_
              refine ao1 (by decide) (o_pick_t (v := .bool _) rfl rfl) ?_
              refine ao1 (by decide) (o_move (v := .bool _) rfl) ?_
              refine ao_split rfl rfl (fun hg18 => ?_) (fun hg18 => ?_)
              · refine ao_y1 rfl rfl (by decide) (w_fieldAddr rfl (lk rfl rfl) rfl (by decide)) ?_
                refine ao_y1 rfl rfl (by decide) (w_load1 (v := .int _ _) rfl (lk rfl rfl) rfl rfl rfl) ?_
                refine ao_y1 rfl rfl (by decide) (o_le rfl rfl) ?_
                refine ao1 (by decide) (o_pick_t (v := .bool _) rfl rfl) ?_
                refine ao1 (by decide) (o_assign (v := .bool _) rfl) ?_
                exact ao_nil (Out.mk (by (refine congrArg AV.bool ?_; (simp only [sright] at *; (simp_all; done)))) (by repeat (first | exact SubX.refl _ _ | refine SubX.at ?_ | refine SubX.put rfl ?_)))
              · refine ao_nT rfl rfl (by decide) ?_
                refine ao_nT rfl rfl (by decide) ?_
                refine ao_nT rfl rfl (by decide) ?_
                refine ao1 (by decide) (o_pick_f (v := .bool _) rfl rfl) ?_
                refine ao1 (by decide) (o_assign (v := .bool _) rfl) ?_
                exact ao_nil (Out.mk (by (refine congrArg AV.bool ?_; (simp only [sright] at *; (simp_all; omega)))) (by repeat (first | exact SubX.refl _ _ | refine SubX.at ?_ | refine SubX.put rfl ?_)))
            · refine ao_nT rfl rfl (by decide) ?_
              refine ao_nT rfl rfl (by decide) ?_
              refine ao_nT rfl rfl (by decide) ?_
              refine ao1 (by decide) (o_pick_f (v := .bool _) rfl rfl) ?_
              refine ao1 (by decide) (o_move (v := .bool _) rfl) ?_
              refine ao_nT rfl rfl (by decide) ?_
              refine ao_nT rfl rfl (by decide) ?_
              refine ao_nT rfl rfl (by decide) ?_
              refine ao1 (by decide) (o_pick_f (v := .bool _) rfl rfl) ?_
              refine ao1 (by decide) (o_assign (v := .bool _) rfl) ?_
              exact ao_nil (Out.mk (by (refine congrArg AV.bool ?_; (simp only [sright] at *; (simp_all; omega)))) (by repeat (first | exact SubX.refl _ _ | refine SubX.at ?_ | refine SubX.put rfl ?_)))
          · refine ao_nT rfl rfl (by decide) ?_
            refine ao_nT rfl rfl (by decide) ?_
            refine ao_nT rfl rfl (by decide) ?_
            refine ao1 (by decide) (o_pick_f (v := .bool _) rfl rfl) ?_
            refine ao1 (by decide) (o_move (v := .bool _) rfl) ?_
            refine ao_nT rfl rfl (by decide) ?_
            refine ao_nT rfl rfl (by decide) ?_
            refine ao_nT rfl rfl (by decide) ?_
            refine ao1 (by decide) (o_pick_f (v := .bool _) rfl rfl) ?_
            refine ao1 (by decide) (o_move (v := .bool _) rfl) ?_
            refine ao_nT rfl rfl (by decide) ?_
            refine ao_nT rfl rfl (by decide) ?_
            refine ao_nT rfl rfl (by decide) ?_
            refine ao1 (by decide) (o_pick_f (v := .bool _) rfl rfl) ?_
            refine ao1 (by decide) (o_assign (v := .bool _) rfl) ?_
            exact ao_nil (Out.mk (by (refine congrArg AV.bool ?_; (simp only [sright] at *; (simp_all; omega)))) (by repeat (first | exact SubX.refl _ _ | refine SubX.at ?_ | refine SubX.put rfl ?_)))
        · refine ao_nT rfl rfl (by decide) ?_
          refine ao_nT rfl rfl (by decide) ?_
          refine ao_nT rfl rfl (by decide) ?_
          refine ao1 (by decide) (o_pick_f (v := .bool _) rfl rfl) ?_
          refine ao1 (by decide) (o_move (v := .bool _) rfl) ?_
          refine ao_nT rfl rfl (by decide) ?_
          refine ao_nT rfl rfl (by decide) ?_
          refine ao_nT rfl rfl (by decide) ?_
          refine ao1 (by decide) (o_pick_f (v := .bool _) rfl rfl) ?_
          refine ao1 (by decide) (o_move (v := .bool _) rfl) ?_
          refine ao_nT rfl rfl (by decide) ?_
          refine ao_nT rfl rfl (by decide) ?_
          refine ao_nT rfl rfl (by decide) ?_
          refine ao1 (by decide) (o_pick_f (v := .bool _) rfl rfl) ?_
          refine ao1 (by decide) (o_move (v := .bool _) rfl) ?_
          refine ao_nT rfl rfl (by decide) ?_
          refine ao_nT rfl rfl (by decide) ?_
          refine ao_nT rfl rfl (by decide) ?_
          refine ao1 (by decide) (o_pick_f (v := .bool _) rfl rfl) ?_
          refine ao1 (by decide) (o_assign (v := .bool _) rfl) ?_
          exact ao_nil (Out.mk (by (refine congrArg AV.bool ?_; (simp only [sright] at *; (simp_all; done)))) (by repeat (first | exact SubX.refl _ _ | refine SubX.at ?_ | refine SubX.put rfl ?_)))
      repeat (first | refine then_nrm ?_ | refine aw_ret ?_)
      exact e_done hB (r_tmp rfl .nil) rfl rfl
theorem sright_facts {s : Spec} (h : sright s = true) : 1 ≤ s.nodes ∧ s.nodes ≤ 64 ∧ 0 ≤ s.cores ∧ s.cores ≤ 64 ∧ 0 ≤ s.gpus ∧ s.gpus ≤ 64 ∧ 1 ≤ s.long ∧ s.long ≤ 1099511627776 ∧ -1000 ≤ s.prio ∧ s.prio ≤ 1000 := by
  simp only [sright, smany, Bool.and_eq_true, decide_eq_true_eq] at h
  omega
theorem mul_in {a b : Int} (ha : 0 ≤ a ∧ a ≤ 64) (hb : 0 ≤ b ∧ b ≤ 128) : 0 ≤ a * b ∧ a * b ≤ 8192 := ⟨Int.mul_nonneg ha.1 hb.1, Int.le_trans (Int.mul_le_mul ha.2 hb.2 hb.1 (by decide)) (by decide)⟩
end Go.Av

/-
  TWO STRUCTS OF PLAIN CELLS ARE COMPARED.
-/
namespace Go.Av
def flatv : AV → Option Value
  | .int k n => some (.int k n)
  | .bool b => some (.bool b)
  | .str s => some (.string s)
  | _ => none
theorem VR.flat_eq {O : Nat → Prop} {w : World} {S : List Slot} {v : AV} {u u' : Value} (h : VR O w S v u) (hf : flatv v = some u') : u = u' := by
  cases h <;> simp [flatv] at hf <;> exact hf
theorem VR.agg_flat {O : Nat → Prop} {w : World} {S : List Slot} {cs : List AV} {us : List Value} {u : Value} (h : VR O w S (.agg cs) u) (hf : cs.map flatv = us.map some) : u = .agg us.toArray := by
  cases h with
  | @agg _ _ vs hn hl h =>
    congr 1
    have hlen : cs.length = us.length := by simpa using congrArg List.length hf
    apply Array.ext
    · simp; omega
    · intro j h1 h2
      have hj : j < cs.length := by omega
      have hju : j < us.length := by omega
      have e : flatv cs[j] = some us[j] := by
        have := congrArg (·[j]?) hf
        simpa [hj, hju] using this
      have := (h j cs[j] vs[j] (List.getElem?_eq_getElem hj) (Array.getElem?_eq_getElem h1)).flat_eq e
      simpa using this
section
variable {P : Program} {N : Nat} {env : Env} {H : Heap} {ty : TypeId}
theorem o_eqAgg {t t' : TypeId} {x y : Operand} {cs ds : List AV} {us vs : List Value} {b : Bool} (hx : aev env x = .agg cs) (hy : aev env y = .agg ds) (hu : cs.map flatv = us.map some) (hv : ds.map flatv = vs.map some)
    (hm : P.eqGuardType P.depth t = false) (hb : ∀ w, (Op.equalIn 10000 t (.agg us.toArray) (.agg vs.toArray)).run P w = .ok b w) : V1 P N (.binOp .eql t x y t') ty env H (.bool b) := by
  intro S a w hc
  have h1 := hc.ev x
  have h2 := hc.ev y
  rw [hx] at h1
  rw [hy] at h2
  have e1 := h1.agg_flat hu
  have e2 := h2.agg_flat hv
  refine ⟨.bool b, fun _ _ _ _ => ?_, .bool⟩
  simp only [execOp, e1, e2, Sem.run_bind, run_eqGuard_agg w .eql t x y _ _ hm, Result.andThen_ok, run_eql_struct, hb w, Sem.run_pure]
theorem o_neAgg {t t' : TypeId} {x y : Operand} {cs ds : List AV} {us vs : List Value} {b : Bool} (hx : aev env x = .agg cs) (hy : aev env y = .agg ds) (hu : cs.map flatv = us.map some) (hv : ds.map flatv = vs.map some)
    (hm : P.eqGuardType P.depth t = false) (hb : ∀ w, (Op.equalIn 10000 t (.agg us.toArray) (.agg vs.toArray)).run P w = .ok b w) : V1 P N (.binOp .neq t x y t') ty env H (.bool (!b)) := by
  intro S a w hc
  have h1 := hc.ev x
  have h2 := hc.ev y
  rw [hx] at h1
  rw [hy] at h2
  have e1 := h1.agg_flat hu
  have e2 := h2.agg_flat hv
  refine ⟨.bool (!b), fun _ _ _ _ => ?_, .bool⟩
  simp only [execOp, e1, e2, Sem.run_bind, run_eqGuard_agg w .neq t x y _ _ hm, Result.andThen_ok, run_neq_struct, hb w, Sem.run_pure]
end
end Go.Av

namespace Go.Av
open Go.Proofs
set_option maxRecDepth 10000
set_option linter.unusedSimpArgs false
set_option linter.unusedVariables false

def uSpec (s : Spec) : List Value := [.int .i64 s.nodes, .int .i64 s.cores, .int .i64 s.gpus, .string s.tag, .bool s.whole, .int .i64 s.long, .int .i64 s.prio]
theorem eqSpec_run (a b : Spec) (w : World) : (Op.equalIn 10000 23 (.agg (uSpec a).toArray) (.agg (uSpec b).toArray)).run Try.prog w = .ok (decide (a = b)) w := by
  have hS : Try.prog.underlying 23 = some (.struct (Try.prog.fieldsOf 23)) := by kernel_rfl
  have hp : Try.prog.stoodInHeld 23 = false := by kernel_rfl
  rw [show (10000 : Nat) = 9999 + 1 from rfl, run_equalIn_agg w 9999 23 _ _ hS hp]
  have u3 := Try.underlying3
  have a3 := Try.isAgg3
  have z3 := Try.sizeOf3
  simp only [uSpec, Program.fieldsOf, Try.underlying23]
  go_simp
  have ht : a.tag.toList = b.tag.toList ↔ a.tag = b.tag := by have := str_eq a.tag b.tag; rw [Bool.eq_iff_iff] at this; simpa using this
  simp only [ht]
  cases a; cases b
  simp only [Spec.mk.injEq]
  (repeat' split) <;> simp_all
end Go.Av

namespace Go.Av
open Go.Proofs
set_option maxRecDepth 10000
set_option linter.unusedSimpArgs false
set_option linter.unusedVariables false

/-- The place of an array's cell, by a number. -/
theorem w_indexArrN {P : Program} {N : Nat} {env : Env} {H : Heap} {ty : TypeId} {t e : TypeId} {x y : Operand} {id g i j m n : Nat} {k : IntKind} {sz : Nat} {agg : Bool} {o : AObj} [ArI P t m e] [TyI P e agg sz] (hx : aev env x = .pt id g i j) (hid : H[id]? = some o) (hg : o.gen = g)
    (hy : aev env y = .int k (n : Int)) (h1 : n < m) : V1 P N (.indexAddr t x y) ty env H (.pt id g i (j + n * sz)) := w_indexArr (agg := agg) (e := e) hx hid hg hy (by omega) (by omega)

theorem p64 {k : Nat} (h : k < 64) : 2 ^ k < 18446744073709551616 := Nat.pow_lt_pow_right (a := 2) (n := 64) (by decide) h
def KD : Know := ⟨0, Lib.deBruijn64tab.map fun n : Nat => Value.int .u8 (n : Int)⟩
theorem KD_at {q k : Nat} (hi : q < 64) (h : Lib.deBruijn64tab.getD q 0 = k) : KD.tab[q]? = some (.int .u8 (k : Int)) := by
  have hlen : Lib.deBruijn64tab.length = 64 := rfl
  unfold KD
  dsimp only
  generalize Lib.deBruijn64tab = l at h hlen
  rw [List.getElem?_map]
  cases hq : l[q]? with
  | none => rw [List.getElem?_eq_none_iff] at hq; omega
  | some v =>
    rw [List.getD_eq_getElem?_getD, hq] at h
    subst h
    rfl
abbrev eInt (i : Int) : List AV := [.int .i64 i]
theorem ints_bel (n : Nat) (l : List Int) : ∀ r ∈ l.map eInt, AV.bels n r = true := rows_bel (e := eInt) (fun _ => rfl) l
theorem ints_len (l : List Int) : ∀ r ∈ l.map eInt, r.length = 1 := rows_len (e := eInt) (n := 1) (fun _ => rfl) l
theorem eWn_bels (n : Nat) (w : Nat → Nat) : AV.bels n (eWn w) = true := by rw [AV.bels_iff]; intro v hv; simp only [eWn, List.mem_map] at hv; obtain ⟨i, _, rfl⟩ := hv; rfl
theorem eWn_len (w : Nat → Nat) : (eWn w).length = 4 := by simp [eWn]
theorem eW0 (l : List Int) : eWn (wd (fpre l 0)) = [.int .u64 0, .int .u64 0, .int .u64 0, .int .u64 0] := by
  rw [fpre_zero]; simp [eWn, wd_zero, List.range_succ]
def pof (l : List Int) : Nat → Nat := wd (fpre l (okn l))
theorem set_of (l : List Int) (hl : l.length ≤ 1000000) (H : Heap) : AC Try.prog 38 [.pl (l.map eInt)] H (Ret (.tup [.agg (eWn (pof l)), .bool (sok l)]) H) := by
  refine AC.body (N := 34) [.cell 2 75, .tmp 3] Try.func38 rfl rfl rfl (Nat.le_of_ble_eq_true rfl) fun B hB => ?_
  repeat (refine aw_seq ?_)
  refine aw_region ?_
  refine ao2 (by rintro _ ⟨⟩; decide) (o_allocL (sz := 4) rfl (by decide) rfl) ?_
  refine ao1 (by decide) (o_assign (v := .bool _) rfl) ?_
  refine ao_nil ?_
  try dsimp only [List.length_nil, put, List.nil_append]
  repeat (first | refine then_nrm ?_ | refine aw_seq ?_)
  refine aw_region ?_
  refine ao2 (by rintro _ ⟨⟩; decide) (o_allocL (sz := 4) rfl (by decide) rfl) ?_
  refine ao_nil ?_
  try dsimp only [put, List.length_cons, List.length_nil, Nat.reduceAdd, List.cons_append, List.nil_append]
  repeat (first | refine then_nrm ?_ | refine aw_seq ?_)
  refine aw_region ?_
  refine ao1 (by decide) (o_assign (v := .int _ _) rfl) ?_
  refine ao_nil ?_
  repeat (first | refine then_nrm ?_ | refine aw_seq ?_)
  refine aw_region ?_
  refine ao1 (by decide) (o_move (v := .pl _) rfl) ?_
  refine ao1 (by decide) (o_lenp rfl) ?_
  refine ao1 (by decide) (o_move (v := .int _ _) rfl) ?_
  refine ao_nil ?_
  repeat (first | refine then_nrm ?_ | refine aw_block ?_)
  refine aw_loop (G := Nat) (fun k => k ≤ l.length ∧ ∀ i, i < k → okB l i = true) (fun k => [(2, .pt (Lid H.length 0) 0 0 0), (4, .pt (Lid H.length 1) 0 0 0), (5, .int .i64 (lastN l k)), (8, .pl (l.map eInt)), (9, .int .i64 (l.length : Int)), (10, .int .i64 (k : Int))]) (fun k => H ++ [⟨0, 4, [[.int .u64 0, .int .u64 0, .int .u64 0, .int .u64 0]]⟩, ⟨0, 4, [eWn (wd (fpre l k))]⟩]) (fun k => l.length - k) 0 ⟨Nat.zero_le _, fun i hi => by omega⟩ (by repeat (first | exact Sub.nil | refine Sub.cons (by first | rfl | (simp [get]; done)) ?_)) (.inl (by rw [eW0])) ?_
  rintro k ⟨hk, hno⟩
  repeat (refine aw_seq ?_)
  refine aw_region ?_
  refine ao1 (by decide) (o_lt rfl rfl) ?_
  refine ao_nil ?_
  repeat (first | refine then_nrm ?_ | refine aw_seq ?_)
  refine aw_cond rfl (fun hc => ?_) (fun hc => ?_)
  · have hlt : k < l.length := by simpa using hc
    obtain ⟨x, hx, hxl⟩ := get_in hlt
    have hr := map_get eInt hx
    have hok := okB_last hx hno
    repeat (first | refine then_nrm ?_ | refine aw_seq ?_ | refine aw_block ?_ | refine aw_skip ?_)
    refine aw_region ?_
    refine ao1 (by decide) (w_indexAddrpN rfl rfl hr rfl) ?_
    refine ao1 (by decide) (o_load1p (v := .int _ _) rfl hr rfl) ?_
    refine ao1 (by decide) (o_assign (v := .int _ _) rfl) ?_
    refine ao_nil ?_
    repeat (first | refine then_nrm ?_ | refine aw_seq ?_)
    refine aw_out 20 (.bool (!okB l k)) ?_ ?_
    · refine ao1 (by decide) (o_move (v := .int _ _) rfl) ?_
      refine ao1 (by decide) (o_move (v := .int _ _) rfl) ?_
      refine ao1 (by decide) (o_le rfl rfl) ?_
      refine ao1 (by decide) (o_move (v := .bool _) rfl) ?_
      refine ao_split rfl rfl (fun hg3 => ?_) (fun hg3 => ?_)
      · refine ao_nF rfl rfl (by decide) ?_
        refine ao_nF rfl rfl (by decide) ?_
        refine ao1 (by decide) (o_pick_t (v := .bool _) rfl rfl) ?_
        exact ao_nil (Out.mk (by (refine congrArg AV.bool ?_; (rw [hok] at *; simp only [Bool.not_not] at *; (simp_all; done)))) (by repeat (first | exact SubX.refl _ _ | refine SubX.at ?_ | refine SubX.put rfl ?_)))
      · refine ao_y1 rfl rfl (by decide) (o_move (v := .int _ _) rfl) ?_
        refine ao_y1 rfl rfl (by decide) (o_ge rfl rfl) ?_
        refine ao1 (by decide) (o_pick_f (v := .bool _) rfl rfl) ?_
        exact ao_nil (Out.mk (by (refine congrArg AV.bool ?_; (rw [hok] at *; simp only [Bool.not_not] at *; (simp_all; omega)))) (by repeat (first | exact SubX.refl _ _ | refine SubX.at ?_ | refine SubX.put rfl ?_)))
    repeat (refine then_nrm ?_)
    refine aw_cond rfl (fun hc => ?_) (fun hc => ?_)
    · repeat (refine aw_seq ?_)
      refine aw_region ?_
      refine ao1 (by decide) (w_loadR rfl (lk rfl rfl) rfl rfl rfl) ?_
      refine ao2 (by rintro _ ⟨⟩) (w_storeW (sz := 4) rfl rfl rfl rfl rfl rfl (eWn_len _) rfl (Nat.le_of_ble_eq_true rfl)) ?_
      refine ao1 (by decide) (o_assign (v := .bool _) rfl) ?_
      refine ao_nil ?_
      try dsimp only [put, List.set_cons_zero]
      repeat (first | refine then_nrm ?_ | refine then_ret ?_ | refine blk_ret ?_ | refine aw_ret ?_)
      rw [sok_false hlt (by simpa using hc), show wd (fpre l k) = pof l by rw [pof, okn_at hlt hno (by simpa using hc)]]
      exact e_done hB (r_cellR rfl (lk rfl rfl) rfl rfl (eWn_len _) (r_tmp rfl .nil)) rfl (by simp [AV.bel, AV.bels, eWn_bels])
    · have hokk : okB l k = true := by simpa using hc
      obtain ⟨h0, h256⟩ := okB_range hx hokk
      obtain ⟨n, rfl⟩ : ∃ n : Nat, x = n := ⟨x.toNat, by omega⟩
      have hn4 : n / 64 < 4 := by omega
      have hp : 2 ^ (n % 64) < 18446744073709551616 := p64 (by omega)
      have hcell : (eWn (wd (fpre l k)))[0 + n / 64 * 1]? = some (.int .u64 ((wd (fpre l k) (n / 64) : Nat) : Int)) := by rw [Nat.zero_add, Nat.mul_one]; exact eWn_get _ hn4
      have hlast : lastN l (k + 1) = (n : Int) := by rw [lastN, if_neg (by omega), Nat.add_sub_cancel, hx]; rfl
      have hset : (eWn (wd (fpre l k))).take (0 + n / 64 * 1) ++ [AV.int .u64 ((wd (fpre l k) (n / 64) ||| 2 ^ (n % 64) : Nat) : Int)] ++ (eWn (wd (fpre l k))).drop (0 + n / 64 * 1 + 1) = eWn (wd (fpre l (k + 1))) := by
        rw [Nat.zero_add, Nat.mul_one, eWn_set _ hn4, fpre_step hx]
        refine eWn_congr fun j _ => ?_
        rw [wd_put]
        split <;> simp_all
      repeat (first | refine then_nrm ?_ | refine aw_seq ?_ | refine aw_skip ?_)
      refine aw_region ?_
      refine ao1 (by decide) (o_move (v := .int _ _) rfl) ?_
      refine ao1 (by decide) (o_assign (v := .int _ _) rfl) ?_
      refine ao_nil ?_
      repeat (refine then_nrm ?_)
      refine aw_drawR mixed (some 9) 1 ?_
      refine aq0 0 rfl (by decide +kernel) (by decide) (fun _ => o_move (v := .int _ _) rfl) ?_
      refine aq0 1 rfl (by decide +kernel) (by decide) (fun _ => o_quo (r := ((n / 64 : Nat) : Int)) rfl rfl (by omega) (wrap64_ok (n := ((n / 64 : Nat) : Int)) (by omega) (by omega))) ?_
      refine aqr 2 rfl (by decide +kernel) (by decide) (fun G hG => w_indexArrN rfl (lk rfl hG) rfl rfl hn4) ?_
      refine aqr 3 rfl (by decide +kernel) (by decide) (fun G hG => w_load1 (v := .int .u64 _) rfl (lk rfl hG) rfl rfl hcell) ?_
      refine aq0 4 rfl (by decide +kernel) (by decide) (fun _ => o_move (v := .int _ _) rfl) ?_
      refine aq0 5 rfl (by decide +kernel) (by decide) (fun _ => o_rem (r := ((n % 64 : Nat) : Int)) rfl rfl (by omega) rfl) ?_
      refine aq0 6 rfl (by decide +kernel) (by decide) (fun _ => o_shl (r := ((2 ^ (n % 64) : Nat) : Int)) rfl rfl (by omega) (by rw [show min ((n % 64 : Nat) : Int).toNat IntKind.u64.bits = n % 64 by show min (n % 64) 64 = _; omega, Int.one_mul]; rw [show ((2 : Int) ^ (n % 64)) = ((2 ^ (n % 64) : Nat) : Int) by simp]; exact u64_wrap _ hp)) ?_
      refine aq0 7 rfl (by decide +kernel) (by decide) (fun _ => o_or (r := ((wd (fpre l k) (n / 64) ||| 2 ^ (n % 64) : Nat) : Int)) rfl rfl (u64_or _ _ (wd_lt _ _) hp)) ?_
      refine aqr 8 rfl (by decide +kernel) (by decide) (fun G hG => w_indexArrN rfl (lk rfl hG) rfl rfl hn4) ?_
      refine aqs 9 rfl (by decide +kernel) (by exact fun _ => ⟨_, rfl, rfl⟩) (by rintro _ ⟨⟩) (w_storeP (sz := 1) (v := .int .u64 _) (r' := eWn (wd (fpre l (k + 1)))) rfl rfl rfl rfl rfl rfl rfl rfl (by show _ ≤ 4; omega) hset) ?_
      refine aa_done (by decide +kernel) (by exact yet_done (by decide +kernel)) ?_
      try dsimp only [put, List.set_cons_zero, List.set_cons_succ]
      repeat (first | refine then_nrm ?_ | refine blk_nrm ?_)
      refine aw_region ?_
      refine ao1 (by decide) (o_add rfl rfl (wrap64_ok (by omega) (by omega))) ?_
      refine ao1 (by decide) (o_move (v := .int _ _) rfl) ?_
      refine ao_nil ?_
      repeat (refine then_nrm ?_)
      refine ⟨k + 1, by omega, ⟨by omega, fun i hi => ?_⟩, by rw [hlast]; exact (by repeat (first | exact Sub.nil | refine Sub.cons (by rfl) ?_)), .refl _ _⟩
      rcases Nat.lt_or_eq_of_le (Nat.le_of_lt_succ hi) with h | h
      · exact hno i h
      · subst h; exact hokk
  · have : k = l.length := by simp at hc; omega
    subst this
    repeat (first | refine then_nrm ?_ | refine then_brk ?_ | refine blk_hit ?_ | refine aw_seq ?_ | refine aw_exit ?_)
    refine aw_region ?_
    refine ao1 (by decide) (w_loadR rfl (lk rfl rfl) rfl rfl rfl) ?_
    refine ao2 (by rintro _ ⟨⟩) (w_storeW (sz := 4) rfl rfl rfl rfl rfl rfl (eWn_len _) rfl (Nat.le_of_ble_eq_true rfl)) ?_
    refine ao1 (by decide) (o_assign (v := .bool _) rfl) ?_
    refine ao_nil ?_
    try dsimp only [put, List.set_cons_zero]
    repeat (first | refine then_nrm ?_ | refine aw_ret ?_)
    rw [sok_true hno, show wd (fpre l l.length) = pof l by rw [pof, okn_all hno]]
    exact e_done hB (r_cellR rfl (lk rfl rfl) rfl rfl (eWn_len _) (r_tmp rfl .nil)) rfl (by simp [AV.bel, AV.bels, eWn_bels])
end Go.Av

/-
  A REGION THAT DRAWS: two rows of the call's own are as1 they were.
-/
namespace Go.Av
def AtR2 (H0 L0 : Heap) (k1 k2 : Nat) (H : Heap) : Prop := ∃ G : Heap, H = H0 ++ G ∧ G[k1]? = L0[k1]? ∧ G[k2]? = L0[k2]?
section
variable {P : Program} {N : Nat} {B : Base} {ops : Array Oper} {a : Option Nat} {C : Heap → Prop} {F : Env → Heap → Prop} {Q : Post}
variable {fuel : Nat} {listed : Array Bool} {env : Env} {H H0 L : Heap} {op : Op} {ty : TypeId} {pos : String} {after : Array Edge} {v : AV} {id : Nat} {l : List Oper}
theorem aw_draw2 (hm : P.follows .mixedOrders = true) (a : Option Nat) (k1 k2 : Nat) (h : AAny P N B l.toArray a (AtR2 H0 L k1 k2) (Q .nrm) l.length (Array.replicate l.length false) env (H0 ++ L)) : AWp P N B (.region id l.toArray true) Q env (H0 ++ L) := aw_draw hm a _ h
theorem aqr2 {d k1 k2 : Nat} {L0 : Heap} (i : Nat) (hi : ops[i]? = some ⟨some d, op, ty, pos, after, none⟩) (hB : firstB ops listed a i = true) (hd : DN d N) (h1 : ∀ G : Heap, G[k1]? = L0[k1]? → G[k2]? = L0[k2]? → V1 P N op ty (renv ⟨some d, op, ty, pos, after, none⟩ env) (H0 ++ G) v)
    (h : AAny P N B ops a (AtR2 H0 L0 k1 k2) F fuel (listed.setIfInBounds i true) ((d, v) :: env) H) : AAny P N B ops a (AtR2 H0 L0 k1 k2) F (fuel + 1) listed env H :=
  aq1 i hi hB hd (by rintro _ ⟨G, rfl, hG1, hG2⟩; exact h1 G hG1 hG2) h
theorem aqyr2 {d j g k1 k2 : Nat} {want : Bool} {L0 : Heap} (i : Nat) (hi : ops[i]? = some ⟨some d, op, ty, pos, after, some (j, want)⟩) (hB : firstB ops listed a i = true) (hd : DN d N) (hj : (ops[j]?).bind (·.dst) = some g) (hb : get env g = .bool want)
    (h1 : ∀ G : Heap, G[k1]? = L0[k1]? → G[k2]? = L0[k2]? → V1 P N op ty (renv ⟨some d, op, ty, pos, after, some (j, want)⟩ env) (H0 ++ G) v)
    (h : AAny P N B ops a (AtR2 H0 L0 k1 k2) F fuel (listed.setIfInBounds i true) ((d, v) :: env) H) : AAny P N B ops a (AtR2 H0 L0 k1 k2) F (fuel + 1) listed env H :=
  aqy1 i hi hB hd hj hb (by rintro _ ⟨G, rfl, hG1, hG2⟩; exact h1 G hG1 hG2) h
end
end Go.Av

namespace Go.Av
open Go.Proofs
set_option maxRecDepth 10000
set_option linter.unusedSimpArgs false
set_option linter.unusedVariables false

theorem sok_len {l : List Int} (h : sok l = true) : ∀ k : Nat, k < l.length → (k : Int) ≤ l.getD k 0 := by
  intro k
  induction k with
  | zero =>
    intro hk
    have hm : l[0]? = some l[0] := List.getElem?_eq_getElem hk
    have := okB_range hm (sok_get h hk)
    simp only [List.getD_eq_getElem?_getD, hm, Option.getD_some]
    omega
  | succ k ih =>
    intro hk
    have hm : l[k + 1]? = some l[k + 1] := List.getElem?_eq_getElem hk
    have hm0 : l[k]? = some l[k] := List.getElem?_eq_getElem (by omega)
    have h1 := sok_get h hk
    rw [okB_get hm] at h1
    have ih := ih (by omega)
    simp only [List.getD_eq_getElem?_getD, hm0, hm, Option.getD_some] at ih ⊢
    simp only [Nat.add_sub_cancel, hm0, Bool.and_eq_true, Bool.or_eq_true, decide_eq_true_eq, beq_iff_eq] at h1
    omega
theorem sok_256 {l : List Int} (h : sok l = true) : l.length ≤ 256 := by
  rcases Nat.lt_or_ge 256 l.length with hl | hl
  · have h1 := sok_len h 256 hl
    have hm : l[256]? = some l[256] := List.getElem?_eq_getElem hl
    have := okB_range hm (sok_get h hl)
    simp only [List.getD_eq_getElem?_getD, hm, Option.getD_some] at h1
    omega
  · exact hl
theorem pof_ok {l : List Int} (h : sok l = true) : pof l = wd (inl l) := by
  rw [pof, okn_all fun i hi => sok_get h hi, fpre_all]
theorem set_Right (l : List Int) (hl : l.length ≤ 1000000) (H : Heap) : AC Try.prog 18 [.pl (l.map eInt)] H (Ret (.bool (sok l)) H) := by
  refine AC.body (N := 11) [.tmp 2] Try.func18 rfl rfl rfl (Nat.le_of_ble_eq_true rfl) fun B hB => ?_
  repeat (refine aw_seq ?_)
  refine aw_region ?_
  refine ao1 (by decide) (o_assign (v := .bool _) rfl) ?_
  refine ao_nil ?_
  repeat (first | refine then_nrm ?_ | refine aw_seq ?_)
  refine aw_region ?_
  refine ao1 (by decide) (o_move (v := .pl _) rfl) ?_
  refine ao_ret (set_of _ (by assumption) _) rfl (by decide) ?_
  refine ao1 (by decide) (o_move (v := .tup _) rfl) ?_
  refine ao1 (by decide) (o_extract (v := .agg _) rfl rfl) ?_
  refine ao1 (by decide) (o_extract (v := .bool _) rfl rfl) ?_
  refine ao2 (by rintro _ ⟨⟩; decide) (o_allocL (sz := 4) rfl (by decide) rfl) ?_
  refine ao2 (by rintro _ ⟨⟩) (w_storeW (sz := 4) rfl rfl rfl rfl rfl rfl (eWn_len _) rfl (Nat.le_of_ble_eq_true rfl)) ?_
  refine ao1 (by decide) (o_assign (v := .bool _) rfl) ?_
  refine ao_nil ?_
  try dsimp only [List.length_nil, put, List.nil_append, List.set_cons_zero]
  repeat (first | refine then_nrm ?_ | refine aw_seq ?_)
  refine aw_region ?_
  refine ao1 (by decide) (o_move (v := .bool _) rfl) ?_
  refine ao1 (by decide) (o_assign (v := .bool _) rfl) ?_
  refine ao_nil ?_
  repeat (first | refine then_nrm ?_ | refine aw_ret ?_)
  exact e_done hB (r_tmp rfl .nil) rfl rfl
end Go.Av

namespace Go.Av
open Go.Proofs
set_option maxRecDepth 10000
set_option linter.unusedSimpArgs false
set_option linter.unusedVariables false

theorem setN_len (f : Nat → Bool) (n : Nat) : (setN f n).length ≤ 64 * n := by
  rw [setN, List.length_map]
  exact Nat.le_trans (List.length_filter_le _ _) (by simp)
theorem setl_len (f : Nat → Bool) : (setl f).length ≤ 256 := setN_len f 4
def setop (op : Bool → Bool → Bool) (a b : List Int) : List Int := if sok a && sok b then setl (fun n => op (inl a n) (inl b n)) else []
end Go.Av

namespace Go.Av
open Go.Proofs
set_option maxRecDepth 10000
set_option linter.unusedSimpArgs false
set_option linter.unusedVariables false

theorem inl_step {l : List Int} {k : Nat} {x : Int} {n : Nat} (hx : l[k]? = some x) (hno : inl (l.take k) n = false) : inl (l.take (k + 1)) n = (x == (n : Int)) := by
  rw [inl, take_snoc_get hx, List.any_append, show (l.take k).any (fun y => y == (n : Int)) = inl (l.take k) n from rfl, hno]; simp
theorem ref01_in (l : List Int) (n : Nat) (hl : l.length ≤ 1000000) (H : Heap) : AC Try.prog 48 [.pl (l.map eInt), .int .i64 (n : Int)] H (Ret (.bool (inl l n)) H) := by
  refine AC.body (N := 18) [.tmp 4] Try.func48 rfl rfl rfl (Nat.le_of_ble_eq_true rfl) fun B hB => ?_
  repeat (refine aw_seq ?_)
  refine aw_region ?_
  refine ao1 (by decide) (o_assign (v := .bool _) rfl) ?_
  refine ao_nil ?_
  repeat (first | refine then_nrm ?_ | refine aw_seq ?_)
  refine aw_region ?_
  refine ao1 (by decide) (o_assign (v := .int _ _) rfl) ?_
  refine ao_nil ?_
  repeat (first | refine then_nrm ?_ | refine aw_block ?_)
  refine aw_loop (G := Nat) (fun k => k ≤ l.length ∧ inl (l.take k) n = false) (fun k => [(0, .pl (l.map eInt)), (1, .int .i64 (n : Int)), (5, .int .i64 (k : Int))]) (fun _ => H ++ []) (fun k => l.length - k) 0 ⟨Nat.zero_le _, rfl⟩ (by repeat (first | exact Sub.nil | refine Sub.cons (by rfl) ?_)) (Fit.refl _ _) ?_
  rintro k ⟨hk, hno⟩
  repeat (refine aw_seq ?_)
  refine aw_region ?_
  refine ao1 (by decide) (o_move (v := .int _ _) rfl) ?_
  refine ao1 (by decide) (o_move (v := .pl _) rfl) ?_
  refine ao1 (by decide) (o_lenp rfl) ?_
  refine ao1 (by decide) (o_lt rfl rfl) ?_
  refine ao_nil ?_
  repeat (refine then_nrm ?_)
  refine aw_cond rfl (fun hc => ?_) (fun hc => ?_)
  · have hlt : k < l.length := by simpa using hc
    obtain ⟨x, hx, hxl⟩ := get_in hlt
    have hr := map_get eInt hx
    have hst := inl_step hx hno
    repeat (first | refine then_nrm ?_ | refine aw_seq ?_ | refine aw_block ?_ | refine aw_skip ?_)
    refine aw_region ?_
    refine ao1 (by decide) (o_move (v := .pl _) rfl) ?_
    refine ao1 (by decide) (o_move (v := .int _ _) rfl) ?_
    refine ao1 (by decide) (w_indexAddrpN rfl rfl hr rfl) ?_
    refine ao1 (by decide) (o_load1p (v := .int _ _) rfl hr rfl) ?_
    refine ao1 (by decide) (o_move (v := .int _ _) rfl) ?_
    refine ao1 (by decide) (o_eq rfl rfl) ?_
    refine ao_nil ?_
    repeat (refine then_nrm ?_)
    refine aw_cond rfl (fun hc => ?_) (fun hc => ?_)
    · repeat (refine aw_seq ?_)
      refine aw_region ?_
      refine ao1 (by decide) (o_assign (v := .bool _) rfl) ?_
      refine ao_nil ?_
      repeat (first | refine then_nrm ?_ | refine then_ret ?_ | refine blk_ret ?_ | refine aw_ret ?_)
      rw [show inl l n = true from List.any_eq_true.2 ⟨x, hxl, hc⟩]
      exact e_done hB (r_tmp rfl .nil) rfl rfl
    · repeat (first | refine then_nrm ?_ | refine blk_nrm ?_ | refine aw_skip ?_)
      refine aw_region ?_
      refine ao1 (by decide) (o_move (v := .int _ _) rfl) ?_
      refine ao1 (by decide) (o_add rfl rfl (wrap64_ok (by omega) (by omega))) ?_
      refine ao1 (by decide) (o_assign (v := .int _ _) rfl) ?_
      refine ao_nil ?_
      repeat (refine then_nrm ?_)
      exact ⟨k + 1, by omega, ⟨by omega, by rw [hst]; exact hc⟩, (by repeat (first | exact Sub.nil | refine Sub.cons (by rfl) ?_)), .refl _ _⟩
  · have : k = l.length := by simp at hc; omega
    subst this
    rw [List.take_length] at hno
    rw [hno]
    repeat (first | refine then_nrm ?_ | refine then_brk ?_ | refine blk_hit ?_ | refine aw_seq ?_ | refine aw_exit ?_)
    refine aw_region ?_
    refine ao1 (by decide) (o_assign (v := .bool _) rfl) ?_
    refine ao_nil ?_
    repeat (first | refine then_nrm ?_ | refine aw_ret ?_)
    exact e_done hB (r_tmp rfl .nil) rfl rfl

set_option maxHeartbeats 0 in
theorem ref01_Right (l : List Int) (hl : l.length ≤ 1000000) (H : Heap) : AC Try.prog 28 [.pl (l.map eInt)] H (Ret (.bool (sok l)) H) := by
  refine AC.body (N := 38) [.tmp 2] Try.func28 rfl rfl rfl (Nat.le_of_ble_eq_true rfl) fun B hB => ?_
  repeat (refine aw_seq ?_)
  refine aw_region ?_
  refine ao1 (by decide) (o_assign (v := .bool _) rfl) ?_
  refine ao_nil ?_
  repeat (first | refine then_nrm ?_ | refine aw_seq ?_)
  refine aw_region ?_
  refine ao1 (by decide) (o_assign (v := .int _ _) rfl) ?_
  refine ao_nil ?_
  repeat (first | refine then_nrm ?_ | refine aw_block ?_)
  refine aw_loop (G := Nat) (fun k => k ≤ l.length ∧ ∀ i, i < k → okB l i = true) (fun k => [(0, .pl (l.map eInt)), (3, .int .i64 (k : Int))]) (fun _ => H ++ []) (fun k => l.length - k) 0 ⟨Nat.zero_le _, fun i hi => by omega⟩ (by repeat (first | exact Sub.nil | refine Sub.cons (by rfl) ?_)) (Fit.refl _ _) ?_
  rintro k ⟨hk, hno⟩
  repeat (refine aw_seq ?_)
  refine aw_region ?_
  refine ao1 (by decide) (o_move (v := .int _ _) rfl) ?_
  refine ao1 (by decide) (o_move (v := .pl _) rfl) ?_
  refine ao1 (by decide) (o_lenp rfl) ?_
  refine ao1 (by decide) (o_lt rfl rfl) ?_
  refine ao_nil ?_
  repeat (refine then_nrm ?_)
  refine aw_cond rfl (fun hc => ?_) (fun hc => ?_)
  · have hlt : k < l.length := by simpa using hc
    obtain ⟨x, hx, hxl⟩ := get_in hlt
    have hr := map_get eInt hx
    obtain ⟨m, hm, _⟩ := get_in (l := l) (k := ((k : Int) - 1).toNat) (by omega)
    have hr1 := map_get eInt hm
    have hnd : okB l k = (decide (0 ≤ x) && decide (x < 256) && (decide (k = 0) || decide (m < x))) := by
      rw [okB_get hx]
      cases k with
      | zero => simp
      | succ k =>
        have e : (((k + 1 : Nat) : Int) - 1).toNat = k := by omega
        rw [e] at hm
        simp [hm]
    clear hxl
    repeat (first | refine then_nrm ?_ | refine aw_seq ?_ | refine aw_block ?_ | refine aw_skip ?_)
    refine aw_of_out 37 (.bool (!okB l k)) ?_ ?_
    · refine aw_drawP mixed none 999 ?_
      refine aq0 0 rfl (by decide +kernel) (by decide) (fun _ => o_move (v := .pl _) rfl) ?_
      refine aq0 1 rfl (by decide +kernel) (by decide) (fun _ => o_move (v := .int _ _) rfl) ?_
      refine aqp 2 rfl (by decide +kernel) (by decide) (fun G => w_indexAddrpN rfl rfl hr rfl) ?_
      refine aqp 3 rfl (by decide +kernel) (by decide) (fun G => o_load1p (v := .int _ _) rfl hr rfl) ?_
      refine aq0 4 rfl (by decide +kernel) (by decide) (fun _ => o_lt rfl rfl) ?_
      refine aq0 5 rfl (by decide +kernel) (by decide) (fun _ => o_move (v := .bool _) rfl) ?_
      refine aq_split (g := 15) rfl (fun hg5 => ?_) (fun hg5 => ?_)
      · refine aqn0 (g := 15) 6 rfl (by decide +kernel) (by decide) rfl rfl rfl ?_
        refine aqn0 (g := 15) 7 rfl (by decide +kernel) (by decide) rfl rfl rfl ?_
        refine aqn0 (g := 15) 8 rfl (by decide +kernel) (by decide) rfl rfl rfl ?_
        refine aqn0 (g := 15) 9 rfl (by decide +kernel) (by decide) rfl rfl rfl ?_
        refine aqn0 (g := 15) 10 rfl (by decide +kernel) (by decide) rfl rfl rfl ?_
        refine aq0 11 rfl (by decide +kernel) (by decide) (fun _ => o_pick_t (v := .bool _) rfl rfl) ?_
        refine aq0 12 rfl (by decide +kernel) (by decide) (fun _ => o_move (v := .bool _) rfl) ?_
        refine aqn0 (g := 22) 13 rfl (by decide +kernel) (by decide) rfl rfl rfl ?_
        refine aqn0 (g := 22) 14 rfl (by decide +kernel) (by decide) rfl rfl rfl ?_
        refine aqn0 (g := 22) 15 rfl (by decide +kernel) (by decide) rfl rfl rfl ?_
        refine aqu0 (g := 25) 16 rfl (by decide +kernel) (by decide) rfl rfl ?_
        refine aqu0 (g := 25) 17 rfl (by decide +kernel) (by decide) rfl rfl ?_
        refine aqu0 (g := 25) 18 rfl (by decide +kernel) (by decide) rfl rfl ?_
        refine aqu0 (g := 25) 19 rfl (by decide +kernel) (by decide) rfl rfl ?_
        refine aqu0 (g := 25) 20 rfl (by decide +kernel) (by decide) rfl rfl ?_
        refine aqu0 (g := 25) 21 rfl (by decide +kernel) (by decide) rfl rfl ?_
        refine aqu0 (g := 25) 22 rfl (by decide +kernel) (by decide) rfl rfl ?_
        refine aqu0 (g := 25) 23 rfl (by decide +kernel) (by decide) rfl rfl ?_
        refine aqu0 (g := 25) 24 rfl (by decide +kernel) (by decide) rfl rfl ?_
        refine aqu0 (g := 25) 25 rfl (by decide +kernel) (by decide) rfl rfl ?_
        refine aqn0 (g := 22) 26 rfl (by decide +kernel) (by decide) rfl rfl rfl ?_
        refine aq0 27 rfl (by decide +kernel) (by decide) (fun _ => o_pick_t (v := .bool _) rfl rfl) ?_
        exact aa_done (by decide +kernel) (by exact fun _ => ⟨_, rfl⟩) (Out.mk (by (refine congrArg AV.bool ?_; (rw [hnd]; clear hno hnd hr hr1 hm hx hl hlt hk hc hB; refine Bool.eq_iff_iff.mpr ?_; simp only [Bool.and_eq_true, Bool.or_eq_true, Bool.not_eq_true', decide_eq_true_eq, decide_eq_false_iff_not, beq_iff_eq, bne_iff_ne, Bool.false_eq_true, Bool.and_eq_false_iff, Bool.or_eq_false_iff, false_iff, true_iff, iff_true, iff_false, Bool.not_true, Bool.not_false, not_true, not_false_iff] at *; omega))) (by repeat (first | exact SubX.refl _ _ | refine SubX.at ?_ | refine SubX.put rfl ?_)))
      · refine aqy0 (g := 15) 6 rfl (by decide +kernel) (by decide) rfl rfl (fun _ => o_move (v := .pl _) rfl) ?_
        refine aqy0 (g := 15) 7 rfl (by decide +kernel) (by decide) rfl rfl (fun _ => o_move (v := .int _ _) rfl) ?_
        refine aqyp (g := 15) 8 rfl (by decide +kernel) (by decide) rfl rfl (fun G => w_indexAddrpN rfl rfl hr rfl) ?_
        refine aqyp (g := 15) 9 rfl (by decide +kernel) (by decide) rfl rfl (fun G => o_load1p (v := .int _ _) rfl hr rfl) ?_
        refine aqy0 (g := 15) 10 rfl (by decide +kernel) (by decide) rfl rfl (fun _ => o_gt rfl rfl) ?_
        refine aq0 11 rfl (by decide +kernel) (by decide) (fun _ => o_pick_f (v := .bool _) rfl rfl) ?_
        refine aq0 12 rfl (by decide +kernel) (by decide) (fun _ => o_move (v := .bool _) rfl) ?_
        refine aq_split (g := 22) rfl (fun hg12 => ?_) (fun hg12 => ?_)
        · refine aqn0 (g := 22) 13 rfl (by decide +kernel) (by decide) rfl rfl rfl ?_
          refine aqn0 (g := 22) 14 rfl (by decide +kernel) (by decide) rfl rfl rfl ?_
          refine aqn0 (g := 22) 15 rfl (by decide +kernel) (by decide) rfl rfl rfl ?_
          refine aqu0 (g := 25) 16 rfl (by decide +kernel) (by decide) rfl rfl ?_
          refine aqu0 (g := 25) 17 rfl (by decide +kernel) (by decide) rfl rfl ?_
          refine aqu0 (g := 25) 18 rfl (by decide +kernel) (by decide) rfl rfl ?_
          refine aqu0 (g := 25) 19 rfl (by decide +kernel) (by decide) rfl rfl ?_
          refine aqu0 (g := 25) 20 rfl (by decide +kernel) (by decide) rfl rfl ?_
          refine aqu0 (g := 25) 21 rfl (by decide +kernel) (by decide) rfl rfl ?_
          refine aqu0 (g := 25) 22 rfl (by decide +kernel) (by decide) rfl rfl ?_
          refine aqu0 (g := 25) 23 rfl (by decide +kernel) (by decide) rfl rfl ?_
          refine aqu0 (g := 25) 24 rfl (by decide +kernel) (by decide) rfl rfl ?_
          refine aqu0 (g := 25) 25 rfl (by decide +kernel) (by decide) rfl rfl ?_
          refine aqn0 (g := 22) 26 rfl (by decide +kernel) (by decide) rfl rfl rfl ?_
          refine aq0 27 rfl (by decide +kernel) (by decide) (fun _ => o_pick_t (v := .bool _) rfl rfl) ?_
          exact aa_done (by decide +kernel) (by exact fun _ => ⟨_, rfl⟩) (Out.mk (by (refine congrArg AV.bool ?_; (rw [hnd]; clear hno hnd hr hr1 hm hx hl hlt hk hc hB; refine Bool.eq_iff_iff.mpr ?_; simp only [Bool.and_eq_true, Bool.or_eq_true, Bool.not_eq_true', decide_eq_true_eq, decide_eq_false_iff_not, beq_iff_eq, bne_iff_ne, Bool.false_eq_true, Bool.and_eq_false_iff, Bool.or_eq_false_iff, false_iff, true_iff, iff_true, iff_false, Bool.not_true, Bool.not_false, not_true, not_false_iff] at *; omega))) (by repeat (first | exact SubX.refl _ _ | refine SubX.at ?_ | refine SubX.put rfl ?_)))
        · refine aqy0 (g := 22) 13 rfl (by decide +kernel) (by decide) rfl rfl (fun _ => o_move (v := .int _ _) rfl) ?_
          refine aqy0 (g := 22) 14 rfl (by decide +kernel) (by decide) rfl rfl (fun _ => o_gt rfl rfl) ?_
          refine aqy0 (g := 22) 15 rfl (by decide +kernel) (by decide) rfl rfl (fun _ => o_move (v := .bool _) rfl) ?_
          refine aq_split (g := 25) rfl (fun hg15 => ?_) (fun hg15 => ?_)
          · refine aqy0 (g := 25) 16 rfl (by decide +kernel) (by decide) rfl rfl (fun _ => o_move (v := .pl _) rfl) ?_
            refine aqy0 (g := 25) 17 rfl (by decide +kernel) (by decide) rfl rfl (fun _ => o_move (v := .int _ _) rfl) ?_
            refine aqyp (g := 25) 18 rfl (by decide +kernel) (by decide) rfl rfl (fun G => w_indexAddrpN rfl rfl hr rfl) ?_
            refine aqyp (g := 25) 19 rfl (by decide +kernel) (by decide) rfl rfl (fun G => o_load1p (v := .int _ _) rfl hr rfl) ?_
            refine aqy0 (g := 25) 20 rfl (by decide +kernel) (by decide) rfl rfl (fun _ => o_move (v := .pl _) rfl) ?_
            refine aqy0 (g := 25) 21 rfl (by decide +kernel) (by decide) rfl rfl (fun _ => o_move (v := .int _ _) rfl) ?_
            refine aqy0 (g := 25) 22 rfl (by decide +kernel) (by decide) rfl rfl (fun _ => o_sub (r := (k : Int) - 1) rfl rfl (wrap64_ok (by omega) (by omega))) ?_
            refine aqyp (g := 25) 23 rfl (by decide +kernel) (by decide) rfl rfl (fun G => w_indexAddrp rfl rfl (by simp at hg15; omega) hr1 rfl) ?_
            refine aqyp (g := 25) 24 rfl (by decide +kernel) (by decide) rfl rfl (fun G => o_load1p (v := .int _ _) rfl hr1 rfl) ?_
            refine aqy0 (g := 25) 25 rfl (by decide +kernel) (by decide) rfl rfl (fun _ => o_le rfl rfl) ?_
            refine aqy0 (g := 22) 26 rfl (by decide +kernel) (by decide) rfl rfl (fun _ => o_pick_t (v := .bool _) rfl rfl) ?_
            refine aq0 27 rfl (by decide +kernel) (by decide) (fun _ => o_pick_f (v := .bool _) rfl rfl) ?_
            exact aa_done (by decide +kernel) (by exact fun _ => ⟨_, rfl⟩) (Out.mk (by (refine congrArg AV.bool ?_; (rw [hnd]; clear hno hnd hr hr1 hm hx hl hlt hk hc hB; refine Bool.eq_iff_iff.mpr ?_; simp only [Bool.and_eq_true, Bool.or_eq_true, Bool.not_eq_true', decide_eq_true_eq, decide_eq_false_iff_not, beq_iff_eq, bne_iff_ne, Bool.false_eq_true, Bool.and_eq_false_iff, Bool.or_eq_false_iff, false_iff, true_iff, iff_true, iff_false, Bool.not_true, Bool.not_false, not_true, not_false_iff] at *; omega))) (by repeat (first | exact SubX.refl _ _ | refine SubX.at ?_ | refine SubX.put rfl ?_)))
          · refine aqn0 (g := 25) 16 rfl (by decide +kernel) (by decide) rfl rfl rfl ?_
            refine aqn0 (g := 25) 17 rfl (by decide +kernel) (by decide) rfl rfl rfl ?_
            refine aqn0 (g := 25) 18 rfl (by decide +kernel) (by decide) rfl rfl rfl ?_
            refine aqn0 (g := 25) 19 rfl (by decide +kernel) (by decide) rfl rfl rfl ?_
            refine aqn0 (g := 25) 20 rfl (by decide +kernel) (by decide) rfl rfl rfl ?_
            refine aqn0 (g := 25) 21 rfl (by decide +kernel) (by decide) rfl rfl rfl ?_
            refine aqn0 (g := 25) 22 rfl (by decide +kernel) (by decide) rfl rfl rfl ?_
            refine aqn0 (g := 25) 23 rfl (by decide +kernel) (by decide) rfl rfl rfl ?_
            refine aqn0 (g := 25) 24 rfl (by decide +kernel) (by decide) rfl rfl rfl ?_
            refine aqn0 (g := 25) 25 rfl (by decide +kernel) (by decide) rfl rfl rfl ?_
            refine aqy0 (g := 22) 26 rfl (by decide +kernel) (by decide) rfl rfl (fun _ => o_pick_f (v := .bool _) rfl rfl) ?_
            refine aq0 27 rfl (by decide +kernel) (by decide) (fun _ => o_pick_f (v := .bool _) rfl rfl) ?_
            exact aa_done (by decide +kernel) (by exact fun _ => ⟨_, rfl⟩) (Out.mk (by (refine congrArg AV.bool ?_; (rw [hnd]; clear hno hnd hr hr1 hm hx hl hlt hk hc hB; refine Bool.eq_iff_iff.mpr ?_; simp only [Bool.and_eq_true, Bool.or_eq_true, Bool.not_eq_true', decide_eq_true_eq, decide_eq_false_iff_not, beq_iff_eq, bne_iff_ne, Bool.false_eq_true, Bool.and_eq_false_iff, Bool.or_eq_false_iff, false_iff, true_iff, iff_true, iff_false, Bool.not_true, Bool.not_false, not_true, not_false_iff] at *; omega))) (by repeat (first | exact SubX.refl _ _ | refine SubX.at ?_ | refine SubX.put rfl ?_)))
    repeat (refine then_nrm ?_)
    refine aw_cond rfl (fun hc => ?_) (fun hc => ?_)
    · repeat (refine aw_seq ?_)
      refine aw_region ?_
      refine ao1 (by decide) (o_assign (v := .bool _) rfl) ?_
      refine ao_nil ?_
      repeat (first | refine then_nrm ?_ | refine then_ret ?_ | refine blk_ret ?_ | refine aw_ret ?_)
      rw [sok_false hlt (by simpa using hc)]
      exact e_done hB (r_tmp rfl .nil) rfl rfl
    · repeat (first | refine then_nrm ?_ | refine blk_nrm ?_ | refine aw_skip ?_)
      refine aw_region ?_
      refine ao1 (by decide) (o_move (v := .int _ _) rfl) ?_
      refine ao1 (by decide) (o_add rfl rfl (wrap64_ok (by omega) (by omega))) ?_
      refine ao1 (by decide) (o_assign (v := .int _ _) rfl) ?_
      refine ao_nil ?_
      repeat (refine then_nrm ?_)
      refine ⟨k + 1, by omega, ⟨by omega, fun i hi => ?_⟩, (by repeat (first | exact Sub.nil | refine Sub.cons (by rfl) ?_)), .refl _ _⟩
      rcases Nat.lt_or_eq_of_le (Nat.le_of_lt_succ hi) with h | h
      · exact hno i h
      · subst h; simpa using hc
  · have : k = l.length := by simp at hc; omega
    subst this
    rw [sok_true hno]
    repeat (first | refine then_nrm ?_ | refine then_brk ?_ | refine blk_hit ?_ | refine aw_seq ?_ | refine aw_exit ?_)
    refine aw_region ?_
    refine ao1 (by decide) (o_assign (v := .bool _) rfl) ?_
    refine ao_nil ?_
    repeat (first | refine then_nrm ?_ | refine aw_ret ?_)
    exact e_done hB (r_tmp rfl .nil) rfl rfl

def opw (how : Int) (x y : Bool) : Bool := if how = 0 then x || y else if how = 1 then x && y else if how = 2 then x && !y else false
def setP (f : Nat → Bool) (n : Nat) : List Int := ((List.range n).filter f).map fun j : Nat => (j : Int)
theorem setP_step (f : Nat → Bool) (n : Nat) : setP f (n + 1) = setP f n ++ if f n then [(n : Int)] else [] := by
  rw [setP, List.range_succ, List.filter_append, List.map_append, setP]
  congr 1
  cases h : f n <;> simp [h]
theorem setP_len (f : Nat → Bool) (n : Nat) : (setP f n).length ≤ n := by
  rw [setP, List.length_map]
  exact Nat.le_trans (List.length_filter_le _ _) (by simp)
end Go.Av

namespace Go.Av
open Go.Proofs
set_option maxRecDepth 10000
set_option linter.unusedSimpArgs false
set_option linter.unusedVariables false

theorem setop_len (op : Bool → Bool → Bool) (a b : List Int) : (setop op a b).length ≤ 256 := by
  unfold setop
  split
  · exact setl_len _
  · exact Nat.zero_le _
theorem eq_step {α : Type} {a b : List α} {k : Nat} {x : α} (hx : a[k]? = some x) (hy : b[k]? = some x) (h : a.take k = b.take k) : a.take (k + 1) = b.take (k + 1) := by
  rw [take_snoc_get hx, take_snoc_get hy, h]
theorem eq_done {α : Type} {a b : List α} (hn : a.length = b.length) (h : a.take a.length = b.take a.length) : a = b := by
  rw [List.take_length, hn, List.take_length] at h; exact h
theorem ne_at {α : Type} {a b : List α} {k : Nat} {x y : α} (hx : a[k]? = some x) (hy : b[k]? = some y) (h : x ≠ y) : a ≠ b := by
  rintro rfl; rw [hx] at hy; exact h (Option.some.inj hy)
theorem ref01_Same (a b : List Int) (ha : a.length ≤ 1000000) (H : Heap) : AC Try.prog 10 [.pl (a.map eInt), .pl (b.map eInt)] H (Ret (.bool (decide (a = b))) H) := by
  refine AC.body (N := 26) [.tmp 4] Try.func10 rfl rfl rfl (Nat.le_of_ble_eq_true rfl) fun B hB => ?_
  repeat (refine aw_seq ?_)
  refine aw_region ?_
  refine ao1 (by decide) (o_assign (v := .bool _) rfl) ?_
  refine ao_nil ?_
  repeat (first | refine then_nrm ?_ | refine aw_seq ?_)
  refine aw_region ?_
  refine ao1 (by decide) (o_move (v := .pl _) rfl) ?_
  refine ao1 (by decide) (o_lenp rfl) ?_
  refine ao1 (by decide) (o_move (v := .pl _) rfl) ?_
  refine ao1 (by decide) (o_lenp rfl) ?_
  refine ao1 (by decide) (o_ne rfl rfl) ?_
  refine ao_nil ?_
  repeat (refine then_nrm ?_)
  refine aw_cond rfl (fun hc => ?_) (fun hc => ?_)
  · have hn : a.length ≠ b.length := by simp at hc; omega
    rw [show decide (a = b) = false by simp; intro e; exact hn (congrArg List.length e)]
    repeat (refine aw_seq ?_)
    refine aw_region ?_
    refine ao1 (by decide) (o_assign (v := .bool _) rfl) ?_
    refine ao_nil ?_
    repeat (first | refine then_nrm ?_ | refine then_ret ?_ | refine aw_ret ?_)
    exact e_done hB (r_tmp rfl .nil) rfl rfl
  have hn : a.length = b.length := by simp at hc; omega
  repeat (first | refine then_nrm ?_ | refine aw_seq ?_ | refine aw_skip ?_)
  refine aw_region ?_
  refine ao1 (by decide) (o_assign (v := .int _ _) rfl) ?_
  refine ao_nil ?_
  repeat (first | refine then_nrm ?_ | refine aw_block ?_)
  refine aw_loop (G := Nat) (fun k => k ≤ a.length ∧ a.take k = b.take k) (fun k => [(0, .pl (a.map eInt)), (1, .pl (b.map eInt)), (5, .int .i64 (k : Int))]) (fun _ => H ++ []) (fun k => a.length - k) 0 ⟨Nat.zero_le _, by simp⟩ (by repeat (first | exact Sub.nil | refine Sub.cons (by rfl) ?_)) (Fit.refl _ _) ?_
  rintro k ⟨hk, he⟩
  repeat (refine aw_seq ?_)
  refine aw_region ?_
  refine ao1 (by decide) (o_move (v := .int _ _) rfl) ?_
  refine ao1 (by decide) (o_move (v := .pl _) rfl) ?_
  refine ao1 (by decide) (o_lenp rfl) ?_
  refine ao1 (by decide) (o_lt rfl rfl) ?_
  refine ao_nil ?_
  repeat (refine then_nrm ?_)
  refine aw_cond rfl (fun hc => ?_) (fun hc => ?_)
  · have hlt : k < a.length := by simpa using hc
    obtain ⟨x, hx, _⟩ := get_in hlt
    obtain ⟨y, hy, _⟩ := get_in (l := b) (k := k) (by omega)
    have hr := map_get eInt hx
    have hr1 := map_get eInt hy
    repeat (first | refine then_nrm ?_ | refine aw_seq ?_ | refine aw_block ?_ | refine aw_skip ?_)
    refine aw_drawP mixed none 999 ?_
    refine aq0 0 rfl (by decide +kernel) (by decide) (fun _ => o_move (v := .pl _) rfl) ?_
    refine aq0 1 rfl (by decide +kernel) (by decide) (fun _ => o_move (v := .int _ _) rfl) ?_
    refine aqp 2 rfl (by decide +kernel) (by decide) (fun G => w_indexAddrpN rfl rfl hr rfl) ?_
    refine aqp 3 rfl (by decide +kernel) (by decide) (fun G => o_load1p (v := .int _ _) rfl hr rfl) ?_
    refine aq0 4 rfl (by decide +kernel) (by decide) (fun _ => o_move (v := .pl _) rfl) ?_
    refine aq0 5 rfl (by decide +kernel) (by decide) (fun _ => o_move (v := .int _ _) rfl) ?_
    refine aqp 6 rfl (by decide +kernel) (by decide) (fun G => w_indexAddrpN rfl rfl hr1 rfl) ?_
    refine aqp 7 rfl (by decide +kernel) (by decide) (fun G => o_load1p (v := .int _ _) rfl hr1 rfl) ?_
    refine aq0 8 rfl (by decide +kernel) (by decide) (fun _ => o_ne rfl rfl) ?_
    refine aa_done (by decide +kernel) (by exact fun _ => ⟨_, rfl⟩) ?_
    repeat (refine then_nrm ?_)
    refine aw_cond rfl (fun hc => ?_) (fun hc => ?_)
    · rw [show decide (a = b) = false by simp; exact ne_at hx hy (by simpa using hc)]
      repeat (refine aw_seq ?_)
      refine aw_region ?_
      refine ao1 (by decide) (o_assign (v := .bool _) rfl) ?_
      refine ao_nil ?_
      repeat (first | refine then_nrm ?_ | refine then_ret ?_ | refine blk_ret ?_ | refine aw_ret ?_)
      exact e_done hB (r_tmp rfl .nil) rfl rfl
    · have hxy : x = y := by simpa using hc
      subst hxy
      repeat (first | refine then_nrm ?_ | refine blk_nrm ?_ | refine aw_skip ?_)
      refine aw_region ?_
      refine ao1 (by decide) (o_move (v := .int _ _) rfl) ?_
      refine ao1 (by decide) (o_add rfl rfl (wrap64_ok (by omega) (by omega))) ?_
      refine ao1 (by decide) (o_assign (v := .int _ _) rfl) ?_
      refine ao_nil ?_
      repeat (refine then_nrm ?_)
      exact ⟨k + 1, by omega, ⟨by omega, eq_step hx hy he⟩, (by repeat (first | exact Sub.nil | refine Sub.cons (by rfl) ?_)), .refl _ _⟩
  · have : k = a.length := by simp at hc; omega
    subst this
    rw [show decide (a = b) = true by simp; exact eq_done hn he]
    repeat (first | refine then_nrm ?_ | refine then_brk ?_ | refine blk_hit ?_ | refine aw_seq ?_ | refine aw_exit ?_)
    refine aw_region ?_
    refine ao1 (by decide) (o_assign (v := .bool _) rfl) ?_
    refine ao_nil ?_
    repeat (first | refine then_nrm ?_ | refine aw_ret ?_)
    exact e_done hB (r_tmp rfl .nil) rfl rfl
end Go.Av

/-
  A REGION THAT DRAWS: an operation that is bound to the turning one by another one is taken first.
-/
namespace Go.Av
section
variable {P : Program} {N : Nat} {B : Base} {ops : Array Oper} {a : Option Nat} {C : Heap → Prop} {F : Env → Heap → Prop} {Q : Post}
variable {op : Op} {ty : TypeId} {pos : String} {after : Array Edge}
/-- i stands ahead of m, by way of operations that have not come up. -/
inductive Anc (ops : Array Oper) (listed : Array Bool) (i : Nat) : Nat → Prop
  | here : Anc ops listed i i
  | step {m : Nat} {om : Oper} {e : Edge} : listed.getD m true = false → ops[m]? = some om → e ∈ om.after → Region.binds .any e = true → Anc ops listed i e.on → Anc ops listed i m
def Wait2 (ops : Array Oper) (a : Option Nat) (i : Nat) (listed : Array Bool) : Prop := ∀ a', a = some a' → ∀ oa, ops[a']? = some oa → ∃ e ∈ oa.after, Region.binds .any e = true ∧ Anc ops listed i e.on
theorem listed_no {listed : Array Bool} {m : Nat} (h1 : listed.getD m false = true) (h2 : listed.getD m true = false) : False := by
  rcases Nat.lt_or_ge m listed.size with h' | h'
  · simp [h'] at h1 h2; rw [h1] at h2; cases h2
  · simp [Array.getElem?_eq_none h'] at h1
theorem Anc.put {listed : Array Bool} {i j m : Nat} {oj : Oper} (hoj : ops[j]? = some oj) (hall : ∀ e ∈ oj.after, Region.binds .any e = true → listed.getD e.on false = true) (hnot : ∀ e ∈ oj.after, Region.binds .any e = true → e.on ≠ i) (h : Anc ops listed i m) : Anc ops (listed.setIfInBounds j true) i m := by
  induction h with
  | here => exact .here
  | @step m om e hm hom he hb h ih =>
    refine .step ?_ hom he hb ih
    have : j ≠ m := by
      rintro rfl
      rw [hoj] at hom
      obtain rfl := Option.some.inj hom
      have h1 := hall e he hb
      have h2 := hnot e he hb
      cases h with
      | here => exact h2 rfl
      | step h3 => exact listed_no h1 h3
    rw [getD_set_ne true this]; exact hm
/-- Taken first: what binds it to the one that turns stands between. -/
theorem aa_first_aux2 {i : Nat} {oi : Oper} {v : AV} (hi : ops[i]? = some oi) (hdi : ∀ t, oi.dst = some t → DN t N) (hai : a ≠ some i) :
    ∀ (fuel : Nat) (listed : Array Bool) (env : Env) (H : Heap), Wait2 ops a i listed → listed.size = ops.size →
      (∀ j oj, ops[j]? = some oj → j ≠ i → listed.getD j true = false → (∀ e ∈ oj.after, Region.binds .any e = true → e.on ≠ i) → oi.apart ops oj = true) →
      i ∈ Region.ready .any ops listed → Yet a listed → Quiet P N ops C oi env v →
      AAny P N B ops a C F fuel (listed.setIfInBounds i true) (Av.put env oi.dst v) H → AAny P N B ops a C F (fuel + 1) listed env H := by
  have hset : ∀ (listed : Array Bool) (j : Nat), a ≠ some j → Yet a (listed.setIfInBounds j true) = Yet a listed := fun listed j hj => by
    unfold Yet
    cases a with
    | none => rfl
    | some a => simp only; rw [getD_set_ne true (fun e => hj (by rw [e]))]
  intro fuel
  induction fuel with
  | zero =>
    intro listed env H _ hsz _ hr ha hq h
    have hC : C H := h.1 (by rw [hset _ _ hai]; exact ha)
    refine ⟨fun _ => hC, fun h0 => (by rw [h0] at hr; cases hr), fun j hj => ?_⟩
    by_cases hji : j = i
    · subst hji; exact hq.at_ hi hdi hC h
    · have := ready_mono hj hji
      rw [h.2.1] at this
      cases this
  | succ fuel ih =>
    intro listed env H hwait hsz hfree hr ha hq h
    have hC : C H := h.1 (by rw [hset _ _ hai]; exact ha)
    refine ⟨fun _ => hC, fun h0 => (by rw [h0] at hr; cases hr), fun j hj => ?_⟩
    by_cases hji : j = i
    · subst hji; exact hq.at_ hi hdi hC h
    · have h1 := h.2.2 j (ready_mono hj hji)
      obtain ⟨hjun, oj, hoj, hall⟩ := mem_ready.1 hj
      have hnot : ∀ e ∈ oj.after, Region.binds .any e = true → e.on ≠ i := fun e he hb heq => by
        have h1 := hall e he hb
        have h0 := (mem_ready.1 hr).1
        rw [heq] at h1
        rcases Nat.lt_or_ge i listed.size with h' | h'
        · simp [h'] at h0 h1; rw [h0] at h1; cases h1
        · simp [Array.getElem?_eq_none h'] at h1
      have hja : a ≠ some j := by
        rintro rfl
        obtain ⟨e, he, hb, hm⟩ := hwait j rfl oj hoj
        generalize hx : e.on = x at hm
        cases hm with
        | here => exact hnot e he hb hx
        | step h3 => exact listed_no (hall e he hb) (by rw [hx]; exact h3)
      have hwait' : Wait2 ops a i (listed.setIfInBounds j true) := by
        intro a' ha' oa hoa
        obtain ⟨e, he, hb, hm⟩ := hwait a' ha' oa hoa
        exact ⟨e, he, hb, hm.put hoj hall hnot⟩
      have hap := hfree j oj hoj hji hjun hnot
      obtain ⟨p1, p2, p3⟩ := Oper.apart_spec hap
      have hfree' : ∀ k ok, ops[k]? = some ok → k ≠ i → (listed.setIfInBounds j true).getD k true = false →
          (∀ e ∈ ok.after, Region.binds .any e = true → e.on ≠ i) → oi.apart ops ok = true := fun k ok hk hki hun hno => by
        refine hfree k ok hk hki ?_ hno
        by_cases hjk : j = k
        · subst hjk; exact hjun
        · rw [getD_set_ne true hjk] at hun; exact hun
      obtain ⟨o, ho, hd, h2⟩ := h1
      rw [hoj] at ho
      obtain rfl := Option.some.inj ho
      have step : ∀ x H', AAny P N B ops a C F fuel ((listed.setIfInBounds i true).setIfInBounds j true) (Av.put (Av.put env oi.dst v) oj.dst x) H' → AAny P N B ops a C F (fuel + 1) (listed.setIfInBounds j true) (Av.put env oj.dst x) H' := by
        intro x H' hx
        refine ih (listed.setIfInBounds j true) (Av.put env oj.dst x) H' hwait' (by simpa using hsz) hfree' (ready_mono hr (Ne.symm hji)) (by rw [hset _ _ hja]; exact ha) (hq.put p3 fun t ht => (hd t ht).2) ?_
        rw [Array.setIfInBounds_comm _ _ hji]
        exact AAny.eqv _ _ _ _ _ (Eqv.comm env v x p2) hx
      refine ⟨oj, hoj, hd, ?_⟩
      rcases h2 with ⟨k1, V, k2, k3⟩ | ⟨k1, k2⟩
      · exact .inl ⟨k1.put p1, V, by rw [renv_put ops oj env oi.dst v p1 fun t ht => (hdi t ht).2] at k2; exact k2, fun x H' hx => step x H' (k3 x H' hx)⟩
      · exact .inr ⟨k1.put p1, step _ _ k2⟩

def ancB (ops : Array Oper) (listed : Array Bool) (i : Nat) : Nat → List Nat → Bool
  | m, [] => m == i
  | m, x :: l => !(listed.getD m true) && (match ops[m]? with
      | some om => om.after.toList.any fun e => Region.binds .any e && e.on == x
      | none => false) && ancB ops listed i x l
theorem ancB_spec {listed : Array Bool} {i : Nat} : ∀ (l : List Nat) (m : Nat), ancB ops listed i m l = true → Anc ops listed i m
  | [], m, h => by simp only [ancB, beq_iff_eq] at h; subst h; exact .here
  | x :: l, m, h => by
    simp only [ancB, Bool.and_eq_true, Bool.not_eq_true'] at h
    obtain ⟨⟨h1, h2⟩, h3⟩ := h
    cases hm : ops[m]? with
    | none => rw [hm] at h2; cases h2
    | some om =>
      rw [hm] at h2
      simp only [List.any_eq_true, Bool.and_eq_true, beq_iff_eq] at h2
      obtain ⟨e, he, hb, ho⟩ := h2
      subst ho
      exact .step h1 hm (by simpa using he) hb (ancB_spec l _ h3)
def firstB2 (ops : Array Oper) (listed : Array Bool) (a : Nat) (l : List Nat) (i : Nat) : Bool :=
  (Region.ready .any ops listed).contains i && Region.free .any ops listed i && decide (listed.size = ops.size) &&
    (i != a && !(listed.getD a true) && ancB ops listed i a l)
theorem aqpz {fuel : Nat} {listed : Array Bool} {env : Env} {H H0 : Heap} {v : AV} {d a : Nat} {L0 : Heap} (l : List Nat) (i : Nat) (hi : ops[i]? = some ⟨some d, op, ty, pos, after, none⟩) (hB : firstB2 ops listed a l i = true) (hd : DN d N) (h1 : ∀ G, V1 P N op ty (renv ⟨some d, op, ty, pos, after, none⟩ env) (H0 ++ (L0 ++ G)) v)
    (h : AAny P N B ops (some a) (Pre H0 L0) F fuel (listed.setIfInBounds i true) ((d, v) :: env) H) : AAny P N B ops (some a) (Pre H0 L0) F (fuel + 1) listed env H := by
  simp only [firstB2, Bool.and_eq_true, decide_eq_true_eq, bne_iff_ne, Bool.not_eq_true'] at hB
  obtain ⟨⟨⟨h2, h3⟩, h5⟩, ⟨h6, h7⟩, h8⟩ := hB
  refine aa_first_aux2 hi (by rintro _ ⟨⟩; exact hd) (fun e => h6 (Option.some.inj e).symm) fuel listed env H ?_ h5 (Region.free_spec hi h3) (by simpa using h2) h7 (.inl ⟨rfl, by rintro H ⟨G, rfl⟩; exact (h1 G).toV2 _ _ _ _⟩) h
  intro a' ha oa hoa
  obtain rfl := Option.some.inj ha
  cases ancB_spec _ _ h8 with
  | here => exact absurd rfl h6
  | step h9 h10 h11 h12 h13 =>
    rw [hoa] at h10
    obtain rfl := Option.some.inj h10
    exact ⟨_, h11, h12, h13⟩
end
end Go.Av

/-
  SETS AS LISTS: two that have the same numbers are one; what is joined, met and taken away, number by number.
-/
namespace Go.Av
theorem sorted_ext : ∀ {a b : List Int}, a.Pairwise (· < ·) → b.Pairwise (· < ·) → (∀ x, x ∈ a ↔ x ∈ b) → a = b
  | [], [], _, _, _ => rfl
  | [], y :: b, _, _, h => absurd ((h y).2 List.mem_cons_self) (by simp)
  | x :: a, [], _, _, h => absurd ((h x).1 List.mem_cons_self) (by simp)
  | x :: a, y :: b, ha, hb, h => by
    rw [List.pairwise_cons] at ha hb
    have e : x = y := by
      rcases List.mem_cons.1 ((h x).1 List.mem_cons_self) with e | e
      · exact e
      · rcases List.mem_cons.1 ((h y).2 List.mem_cons_self) with e' | e'
        · exact e'.symm
        · have := hb.1 x e; have := ha.1 y e'; omega
    subst e
    congr 1
    refine sorted_ext ha.2 hb.2 fun z => ⟨fun hz => ?_, fun hz => ?_⟩
    · rcases List.mem_cons.1 ((h z).1 (List.mem_cons_of_mem _ hz)) with e | e
      · have := ha.1 z hz; omega
      · exact e
    · rcases List.mem_cons.1 ((h z).2 (List.mem_cons_of_mem _ hz)) with e | e
      · have := hb.1 z hz; omega
      · exact e
theorem sok_get_range {l : List Int} (h : sok l = true) {k : Nat} (hk : k < l.length) : 0 ≤ l[k] ∧ l[k] < 256 := okB_range (List.getElem?_eq_getElem hk) (sok_get h hk)
theorem sok_step {l : List Int} (h : sok l = true) {k : Nat} (hk : k + 1 < l.length) : l[k] < l[k + 1] := by
  have h1 := sok_get h hk
  rw [okB_get (List.getElem?_eq_getElem hk)] at h1
  simp only [Nat.add_sub_cancel, List.getElem?_eq_getElem (Nat.lt_of_succ_lt hk), Bool.and_eq_true, Bool.or_eq_true, decide_eq_true_eq, beq_iff_eq] at h1
  omega
theorem sok_sorted {l : List Int} (h : sok l = true) : l.Pairwise (· < ·) := by
  rw [List.pairwise_iff_getElem]
  intro i j hi hj hij
  obtain ⟨d, rfl⟩ : ∃ d, j = i + 1 + d := ⟨j - i - 1, by omega⟩
  induction d with
  | zero => exact sok_step h hj
  | succ d ih =>
    have h1 := ih (by omega) (by omega)
    have h2 := sok_step h (k := i + 1 + d) (by omega)
    exact Int.lt_trans h1 h2
theorem sok_of_sorted {l : List Int} (h : l.Pairwise (· < ·)) (hr : ∀ x ∈ l, 0 ≤ x ∧ x < 256) : sok l = true := by
  refine sok_true fun k hk => ?_
  rw [okB_get (List.getElem?_eq_getElem hk)]
  have h1 := hr l[k] (List.getElem_mem hk)
  simp only [Bool.and_eq_true, Bool.or_eq_true, decide_eq_true_eq, beq_iff_eq]
  refine ⟨h1, ?_⟩
  cases k with
  | zero => exact .inl rfl
  | succ k =>
    refine .inr ?_
    rw [Nat.add_sub_cancel, List.getElem?_eq_getElem (by omega)]
    exact decide_eq_true (List.pairwise_iff_getElem.1 h k (k + 1) (by omega) hk (by omega))
theorem mem_setl {f : Nat → Bool} {x : Int} : x ∈ setl f ↔ ∃ n : Nat, x = n ∧ n < 256 ∧ f n = true := by
  unfold setl
  simp only [List.mem_map, List.mem_filter, List.mem_range]
  constructor
  · rintro ⟨n, ⟨h1, h2⟩, rfl⟩; exact ⟨n, rfl, h1, h2⟩
  · rintro ⟨n, rfl, h1, h2⟩; exact ⟨n, ⟨h1, h2⟩, rfl⟩
theorem setl_sorted (f : Nat → Bool) : (setl f).Pairwise (· < ·) := by
  unfold setl
  rw [List.pairwise_map]
  exact (List.pairwise_lt_range.filter _).imp (by intro a b h; omega)
theorem sok_setl (f : Nat → Bool) : sok (setl f) = true := sok_of_sorted (setl_sorted f) fun x hx => by
  obtain ⟨n, rfl, h, _⟩ := mem_setl.1 hx
  omega
theorem inl_mem {l : List Int} {n : Nat} : inl l n = true ↔ (n : Int) ∈ l := by
  unfold inl
  rw [List.any_eq_true]
  constructor
  · rintro ⟨x, hx, h⟩; obtain rfl : x = n := by simpa using h
    exact hx
  · intro h; exact ⟨_, h, by simp⟩
theorem inl_setl (f : Nat → Bool) (n : Nat) : inl (setl f) n = (decide (n < 256) && f n) := by
  rw [Bool.eq_iff_iff, inl_mem, mem_setl]
  simp only [Bool.and_eq_true, decide_eq_true_eq]
  constructor
  · rintro ⟨m, h, h1, h2⟩; obtain rfl : n = m := by omega
    exact ⟨h1, h2⟩
  · rintro ⟨h1, h2⟩; exact ⟨n, rfl, h1, h2⟩
theorem inl_256 {l : List Int} (h : sok l = true) {n : Nat} (hn : inl l n = true) : n < 256 := by
  obtain ⟨k, hk, e⟩ := List.getElem_of_mem (inl_mem.1 hn)
  have := sok_get_range h hk
  omega
theorem sok_mem {l : List Int} (h : sok l = true) {x : Int} (hx : x ∈ l) : 0 ≤ x ∧ x < 256 := by
  obtain ⟨k, hk, rfl⟩ := List.getElem_of_mem hx
  exact sok_get_range h hk
/-- Sets with the same numbers are one. -/
theorem sok_ext {a b : List Int} (ha : sok a = true) (hb : sok b = true) (h : ∀ n, inl a n = inl b n) : a = b := by
  refine sorted_ext (sok_sorted ha) (sok_sorted hb) fun x => ?_
  constructor
  · intro hx
    have := sok_mem ha hx
    have h1 : inl a x.toNat = true := inl_mem.2 (by rw [Int.toNat_of_nonneg this.1]; exact hx)
    rw [h] at h1
    have := inl_mem.1 h1
    rwa [Int.toNat_of_nonneg (by omega)] at this
  · intro hx
    have := sok_mem hb hx
    have h1 : inl b x.toNat = true := inl_mem.2 (by rw [Int.toNat_of_nonneg this.1]; exact hx)
    rw [← h] at h1
    have := inl_mem.1 h1
    rwa [Int.toNat_of_nonneg (by omega)] at this
theorem setl_nil {f : Nat → Bool} : setl f = [] ↔ ∀ n, n < 256 → f n = false := by
  constructor
  · intro h n hn
    cases hf : f n with
    | false => rfl
    | true =>
      have : (n : Int) ∈ setl f := mem_setl.2 ⟨n, rfl, hn, hf⟩
      rw [h] at this; cases this
  · intro h
    refine List.eq_nil_iff_forall_not_mem.2 fun x hx => ?_
    obtain ⟨n, rfl, h1, h2⟩ := mem_setl.1 hx
    rw [h n h1] at h2; cases h2
theorem sok_nil : sok [] = true := by decide
theorem inl_nil (n : Nat) : inl [] n = false := rfl
end Go.Av

/-
  CODES, plainly: numbers as1 bytes, seven bits a byte; sets as1 runs; what bytes are read as1.
-/
namespace Go.Av
/-- A number, and what is left; or the error. -/
def got (i n : Nat) : List UInt8 → Except Int (Nat × List UInt8)
  | [] => .error 2
  | c :: r =>
    if 8 < i ∨ (0 < i ∧ c = 0) then .error 3
    else if c.toNat < 128 then (if 4611686018427387904 < n + c.toNat % 128 * 128 ^ i then .error 3 else .ok (n + c.toNat % 128 * 128 ^ i, r))
    else got (i + 1) (n + c.toNat % 128 * 128 ^ i) r
def goti (first last : Nat) : List Int := (List.range (last + 1 - first)).map fun k => ((first + k : Nat) : Int)
/-- The runs of a set, one behind the other. -/
def gots : Nat → Bool → Nat → List Int → List UInt8 → Except Int (List Int × List UInt8)
  | 0, _, _, acc, b => .ok (acc, b)
  | m + 1, first, last, acc, b =>
    match got 0 0 b with
    | .error e => .error e
    | .ok (far, b1) =>
      match got 0 0 b1 with
      | .error e => .error e
      | .ok (more, b2) =>
        if far < 256 ∧ more < 256 ∧ last + far + more < 256 ∧ (first = true ∨ 1 < far) then gots m false (last + far + more) (acc ++ goti (last + far) (last + far + more)) b2
        else .error 3
def rset : List UInt8 → Except Int (List Int × List UInt8)
  | [] => .error 2
  | c :: r =>
    if c ≠ 2 then .error 3
    else match got 0 0 r with
      | .error e => .error e
      | .ok (many, b) => if 256 < many then .error 3 else gots many true 0 [] b
def readSet (b : List UInt8) : List Int × Int :=
  if 65536 < b.length then ([], 4)
  else match rset b with
    | .error e => ([], e)
    | .ok (l, r) => if r = [] then (l, 0) else ([], 3)
theorem got_rest {b : List UInt8} : ∀ {i n : Nat} {m : Nat} {r : List UInt8}, got i n b = .ok (m, r) → r.length < b.length ∧ m ≤ 4611686018427387904 := by
  induction b with
  | nil => intro i n m r h; cases h
  | cons c b ih =>
    intro i n m r h
    unfold got at h
    split at h
    · cases h
    split at h
    · split at h
      · cases h
      · cases h; exact ⟨by simp, by omega⟩
    · have := ih h; exact ⟨by simp; omega, this.2⟩
end Go.Av

namespace Go.Av
open Go.Proofs
set_option maxRecDepth 10000
set_option linter.unusedSimpArgs false
set_option linter.unusedVariables false

/-- The type of errors. -/
abbrev TE : Nat := 29
def rdR (H : Heap) (id g : Nat) (res : Except Int (AV × List UInt8)) : AOut → Heap → Prop := fun o H' => match res with
  | .ok (v, rest) => o = .ret v ∧ H' = H.set id ⟨g, 1, [[.pl (rest.map brow)]]⟩
  | .error e => o = .pan (.ifc TE (.int .i64 e)) ∧ ∃ rest : List UInt8, H' = H.set id ⟨g, 1, [[.pl (rest.map brow)]]⟩
theorem set_same {H : Heap} {id : Nat} {o : AObj} (h : H[id]? = some o) : H.set id o = H := by
  obtain ⟨h1, h2⟩ := List.getElem?_eq_some_iff.1 h
  subst h2
  exact List.set_getElem_self h1
theorem e_pan {P : Program} {B : Base} {rs : List ResultVar} {R : AOut → Heap → Prop} {v : AV} {env : Env} {H L M : Heap} {args : List AV} (hB : Begun B H args) (hR : R (.pan v) M) (hb : v.bel H.length = true) (hl : M.length = H.length) (hM : HBel H.length M) : Ends P B rs R (.pan v) env (M ++ L) :=
  ⟨M, .inr ⟨L, rfl, by rw [hB.len, hl]; exact Nat.le_refl _, by rw [hl]; exact hb, by rw [hl]; exact hM⟩, hR⟩
theorem e_ret {P : Program} {B : Base} {rs : List ResultVar} {R : AOut → Heap → Prop} {vs : List AV} {v : AV} {env : Env} {H L M : Heap} {args : List AV} (hB : Begun B H args) (h : ResVs P env (M ++ L) rs vs) (hv : tupv vs = v) (hR : R (.ret v) M) (hb : v.bel H.length = true) (hl : M.length = H.length) (hM : HBel H.length M) : Ends P B rs R .ret env (M ++ L) :=
  ⟨vs, M, h, .inr ⟨L, rfl, by rw [hB.len, hl]; exact Nat.le_refl _, by rw [hv, hl]; exact hb, by rw [hl]; exact hM⟩, by rw [hv]; exact hR⟩
theorem bytes_bel1 (n : Nat) (l : List UInt8) : AV.bels n [AV.pl (l.map brow)] = true := rfl
theorem join_pan {B : Base} {E : Env} {M : Heap} {Q : Post} {v : AV} {env : Env} {H : Heap} (h : Q (.pan v) env H) : JoinP B E M Q (.pan v) env H := h
def needR (b : Bool) (e : Int) (H : Heap) : AOut → Heap → Prop := fun o H' => H' = H ∧ o = if b then .ret (.tup []) else .pan (.ifc TE (.int .i64 e))
theorem bytes_len1 (l : List UInt8) : ∀ r ∈ l.map brow, r.length = 1 := rows_len (e := brow) (n := 1) (fun _ => rfl) l
theorem code_need (b : Bool) (e : Int) (H : Heap) : AC Try.prog 44 [.bool b, .int .i64 e] H (needR b e H) := by
  refine AC.body (N := 8) [] Try.func44 rfl rfl rfl (Nat.le_of_ble_eq_true rfl) fun B hB => ?_
  repeat (refine aw_seq ?_)
  refine aw_region ?_
  refine ao1 (by decide) (o_move (v := .bool _) rfl) ?_
  refine ao1 (by decide) (o_not rfl) ?_
  refine ao_nil ?_
  repeat (refine then_nrm ?_)
  refine aw_cond rfl (fun hc => ?_) (fun hc => ?_)
  · have hb : b = false := by simpa using hc
    subst hb
    refine aw_region ?_
    refine ao1 (by decide) (o_move (v := .int _ _) rfl) ?_
    refine ao1 (by decide) (o_makeIface (v := .int _ _) rfl) ?_
    refine ao_panic rfl ?_ (by rintro _ ⟨⟩)
    exact e_pan hB ⟨rfl, rfl⟩ rfl rfl hB.heap
  · have hb : b = true := by simpa using hc
    subst hb
    repeat (refine aw_skip ?_)
    exact e_ret (vs := []) hB .nil rfl ⟨rfl, rfl⟩ rfl rfl hB.heap
theorem code_needT (e : Int) (H : Heap) : AC Try.prog 44 [.bool true, .int .i64 e] H (Ret (.tup []) H) := (code_need true e H).mono fun o H' h => ⟨h.2, h.1⟩
theorem code_needF (e : Int) (H : Heap) : AC Try.prog 44 [.bool false, .int .i64 e] H (fun o H' => H' = H ∧ o = .pan (.ifc TE (.int .i64 e))) := code_need false e H
def nextS : List UInt8 → Except Int (AV × List UInt8) | [] => .error 2 | c :: r => .ok (.int .u8 c.toNat, r)
theorem code_next (bs : List UInt8) (H : Heap) (id g : Nat) (hF : H[id]? = some ⟨g, 1, [[.pl (bs.map brow)]]⟩) : AC Try.prog 56 [.pt id g 0 0] H (rdR H id g (nextS bs)) := by
  refine AC.body (N := 26) [.tmp 2] Try.func56 rfl rfl rfl (Nat.le_of_ble_eq_true rfl) fun B hB => ?_
  repeat (refine aw_seq ?_)
  refine aw_region ?_
  refine ao1 (by decide) (o_assign (v := .int _ _) rfl) ?_
  refine ao_nil ?_
  cases bs with
  | nil =>
    repeat (first | refine then_nrm ?_ | refine aw_seq ?_)
    refine aw_region ?_
    refine ao1 (by decide) (o_move (v := .pt _ _ _ _) rfl) ?_
    refine ao1 (by decide) (w_nilCheck rfl (lkF hF) rfl) ?_
    refine ao1 (by decide) (w_fieldAddr rfl (lkF hF) rfl (by decide)) ?_
    refine ao1 (by decide) (w_load1 (v := .pl _) rfl (lkF hF) rfl rfl rfl) ?_
    refine ao1 (by decide) (o_lenp rfl) ?_
    refine ao1 (by decide) (o_gt rfl rfl) ?_
    refine ao_call (vs := [.bool false, .int .i64 2]) rfl (by decide) (code_needF 2 _) (by rintro v H' ⟨_, h⟩; cases h) (by rintro v H' ⟨rfl, h⟩; cases h; (repeat (refine then_pan ?_)); exact e_pan hB ⟨rfl, [], (set_same hF).symm⟩ rfl rfl hB.heap)
  | cons c r =>
    repeat (first | refine then_nrm ?_ | refine aw_seq ?_)
    refine aw_region ?_
    refine ao1 (by decide) (o_move (v := .pt _ _ _ _) rfl) ?_
    refine ao1 (by decide) (w_nilCheck rfl (lkF hF) rfl) ?_
    refine ao1 (by decide) (w_fieldAddr rfl (lkF hF) rfl (by decide)) ?_
    refine ao1 (by decide) (w_load1 (v := .pl _) rfl (lkF hF) rfl rfl rfl) ?_
    refine ao1 (by decide) (o_lenp rfl) ?_
    refine ao1 (by decide) (o_gt rfl rfl) ?_
    refine ao_ret (code_needT 2 _) (by show [AV.bool (decide (0 < (((c :: r).map brow).length : Int))), AV.int .i64 2] = _; simp) (by decide) ?_
    refine ao_nil ?_
    try dsimp only [Nat.reduceAdd]
    have hr : ((c :: r).map brow)[(0 : Int).toNat]? = some (brow c) := rfl
    repeat (first | refine then_nrm ?_ | refine aw_seq ?_)
    refine aw_region ?_
    refine ao1 (by decide) (o_move (v := .pt _ _ _ _) rfl) ?_
    refine ao1 (by decide) (w_nilCheck rfl (lkF hF) rfl) ?_
    refine ao1 (by decide) (w_fieldAddr rfl (lkF hF) rfl (by decide)) ?_
    refine ao1 (by decide) (w_load1 (v := .pl _) rfl (lkF hF) rfl rfl rfl) ?_
    refine ao1 (by decide) (w_indexAddrpN rfl rfl hr rfl) ?_
    refine ao1 (by decide) (o_load1p (v := .int _ _) rfl hr rfl) ?_
    refine ao1 (by decide) (o_assign (v := .int _ _) rfl) ?_
    refine ao_nil ?_
    try dsimp only [Nat.reduceAdd]
    repeat (first | refine then_nrm ?_ | refine aw_seq ?_)
    refine aw_region ?_
    refine ao1 (by decide) (o_move (v := .pt _ _ _ _) rfl) ?_
    refine ao1 (by decide) (o_move (v := .pt _ _ _ _) rfl) ?_
    refine ao1 (by decide) (w_nilCheck rfl (lkF hF) rfl) ?_
    refine ao1 (by decide) (w_fieldAddr rfl (lkF hF) rfl (by decide)) ?_
    refine ao1 (by decide) (w_load1 (v := .pl _) rfl (lkF hF) rfl rfl rfl) ?_
    refine ao1 (by decide) (o_slicep (sz := 1) (l := 1) (h := r.length + 1) rfl (.some rfl rfl) (by simpa using Bd.none) (by omega) (by simp) (bytes_len1 _)) ?_
    refine ao1 (by decide) (w_nilCheck rfl (lkF hF) rfl) ?_
    refine ao1 (by decide) (w_fieldAddr rfl (lkF hF) rfl (by decide)) ?_
    refine ao2 (by rintro _ ⟨⟩) (w_storeFP (sz := 1) (v := .pl _) (r' := [.pl (r.map brow)]) rfl hF rfl rfl rfl rfl rfl (Nat.le_refl 1) (by simp [List.take_of_length_le, AV.cells])) ?_
    refine ao_nil ?_
    try dsimp only [put, Nat.reduceAdd, List.set_cons_zero]
    repeat (first | refine then_nrm ?_ | refine aw_seq ?_)
    refine aw_region ?_
    refine ao1 (by decide) (o_move (v := .int _ _) rfl) ?_
    refine ao1 (by decide) (o_assign (v := .int _ _) rfl) ?_
    refine ao_nil ?_
    repeat (first | refine then_nrm ?_ | refine aw_ret ?_)
    exact e_ret hB (r_tmp rfl .nil) rfl ⟨rfl, rfl⟩ rfl (by simp) (HBel.set hB.heap _ _ (by simp [AV.bels, AV.bel]))
/-! ### the reader's row -/
def Hs (H : Heap) (id g : Nat) (bs : List UInt8) : Heap := H.set id ⟨g, 1, [[.pl (bs.map brow)]]⟩
theorem hs_get {H : Heap} {id g : Nat} {bs : List UInt8} (h : id < H.length) : (Hs H id g bs)[id]? = some ⟨g, 1, [[.pl (bs.map brow)]]⟩ := by
  unfold Hs; rw [List.getElem?_set_self h]
theorem hs_hs (H : Heap) (id g : Nat) (bs cs : List UInt8) : Hs (Hs H id g bs) id g cs = Hs H id g cs := by unfold Hs; rw [List.set_set]
theorem hs_app {H L : Heap} {id g : Nat} {bs : List UInt8} (h : id < H.length) : Hs (H ++ L) id g bs = Hs H id g bs ++ L := by unfold Hs; rw [List.set_append_left _ _ h]
theorem hs_len (H : Heap) (id g : Nat) (bs : List UInt8) : (Hs H id g bs).length = H.length := by unfold Hs; rw [List.length_set]
theorem hs_self {H : Heap} {id g : Nat} {bs : List UInt8} (hF : H[id]? = some ⟨g, 1, [[.pl (bs.map brow)]]⟩) : Hs H id g bs = H := set_same hF
theorem hs_bel {n : Nat} {H : Heap} (h : HBel n H) (id g : Nat) (bs : List UInt8) : HBel n (Hs H id g bs) := HBel.set h _ _ (by simp [AV.bels, AV.bel])
/-- What reading comes to: a value, and what is left; or a panic with an error. -/
def rdS (H : Heap) (id g : Nat) (res : Except Int (AV × List UInt8)) : AOut → Heap → Prop := fun o H' => match res with
  | .ok (v, rest) => o = .ret v ∧ H' = Hs H id g rest
  | .error e => o = .pan (.ifc TE (.int .i64 e)) ∧ ∃ rest : List UInt8, H' = Hs H id g rest
theorem AC.rd {P : Program} {f : FuncId} {args : List AV} {H : Heap} {id g : Nat} {bs : List UInt8} {res : Except Int (AV × List UInt8)} (h : AC P f args (Hs H id g bs) (rdR (Hs H id g bs) id g res)) : AC P f args (Hs H id g bs) (rdS H id g res) := h.mono fun o H' k => by
  cases res with
  | ok x => obtain ⟨k1, k2⟩ := k; exact ⟨k1, by rw [k2]; exact hs_hs _ _ _ _ _⟩
  | error e => obtain ⟨k1, r, k2⟩ := k; exact ⟨k1, r, by rw [k2]; exact hs_hs _ _ _ _ _⟩
section
variable {P : Program} {N : Nat} {B : Base} {Q : Post} {env : Env} {H L : Heap} {ty : TypeId} {ops : Array Oper} {rest : List Oper}
/-- A call that reads. -/
theorem ao_rd {d f id g : Nat} {xs : Array Operand} {ts : Array TypeId} {pos : String} {after : Array Edge} {vs : List AV} {bs : List UInt8} {res : Except Int (AV × List UInt8)} [FnI P f] (hvs : xs.toList.map (aev env) = vs) (hd : d < N) (hlt : id < H.length) (hac : ∀ H, id < H.length → AC P f vs (Hs H id g bs) (rdS H id g res))
    (hK : ∀ v r, res = .ok (v, r) → AOps P N B ops rest Q ((d, v) :: env) (Hs H id g r ++ L)) (hX : ∀ e r, res = .error e → Q (.pan (.ifc TE (.int .i64 e))) env (Hs H id g r ++ L)) :
    AOps P N B ops (⟨some d, .call { callee := .value (.func f), args := xs, argTypes := ts }, ty, pos, after, none⟩ :: rest) Q env (Hs H id g bs ++ L) := by
  have hlt' : id < (H ++ L).length := by rw [List.length_append]; omega
  have h := hac (H ++ L) hlt'
  rw [hs_app hlt] at h
  refine ao_call hvs hd h ?_ ?_
  · rintro v H' h
    cases res with
    | ok x => obtain ⟨h1, h2⟩ := h; cases h1; rw [h2, hs_app hlt]; exact hK _ _ rfl
    | error e => obtain ⟨h1, _⟩ := h; cases h1
  · rintro v H' h
    cases res with
    | ok x => obtain ⟨h1, _⟩ := h; cases h1
    | error e => obtain ⟨h1, r, h2⟩ := h; cases h1; rw [h2, hs_app hlt]; exact hX _ _ rfl
/-- It needs something. -/
theorem ao_need {d f : Nat} {xs : Array Operand} {ts : Array TypeId} {pos : String} {after : Array Edge} {b : Bool} {e : Int} {H : Heap} [FnI P f] (hvs : xs.toList.map (aev env) = [.bool b, .int .i64 e]) (hd : d < N) (hac : ∀ b e H, AC P f [.bool b, .int .i64 e] H (needR b e H))
    (hK : b = true → AOps P N B ops rest Q ((d, .tup []) :: env) H) (hX : b = false → Q (.pan (.ifc TE (.int .i64 e))) env H) :
    AOps P N B ops (⟨some d, .call { callee := .value (.func f), args := xs, argTypes := ts }, ty, pos, after, none⟩ :: rest) Q env H := by
  refine ao_call hvs hd (hac b e H) ?_ ?_
  · rintro v H' ⟨rfl, h⟩
    cases b with
    | true => cases h; exact hK rfl
    | false => cases h
  · rintro v H' ⟨rfl, h⟩
    cases b with
    | true => cases h
    | false => cases h; exact hX rfl
theorem e_rdX {args : List AV} {rs : List ResultVar} {id g : Nat} {bs r : List UInt8} {e : Int} {res : Except Int (AV × List UInt8)} (hB : Begun B (Hs H id g bs) args) (hr : res = .error e) : Ends P B rs (rdS H id g res) (.pan (.ifc TE (.int .i64 e))) env (Hs H id g r ++ L) := by
  subst hr
  have hbel := hs_bel hB.heap id g r
  rw [hs_hs] at hbel
  exact e_pan hB ⟨rfl, r, rfl⟩ rfl (by rw [hs_len, hs_len]) hbel
theorem e_rd {args : List AV} {rs : List ResultVar} {vs : List AV} {v : AV} {id g : Nat} {bs r : List UInt8} {res : Except Int (AV × List UInt8)} (hB : Begun B (Hs H id g bs) args) (h : ResVs P env (Hs H id g r ++ L) rs vs) (hv : tupv vs = v) (hr : res = .ok (v, r)) (hb : v.bel H.length = true) : Ends P B rs (rdS H id g res) .ret env (Hs H id g r ++ L) := by
  subst hr
  have hbel := hs_bel hB.heap id g r
  rw [hs_hs] at hbel
  exact e_ret hB h hv ⟨rfl, rfl⟩ (by rw [hs_len]; exact hb) (by rw [hs_len, hs_len]) hbel
end
theorem code_nextS (bs : List UInt8) (id g : Nat) (H : Heap) (h : id < H.length) : AC Try.prog 56 [.pt id g 0 0] (Hs H id g bs) (rdS H id g (nextS bs)) := (code_next bs _ id g (hs_get h)).rd
def kindS (k : Int) : List UInt8 → Except Int (AV × List UInt8) | [] => .error 2 | c :: r => if (c.toNat : Int) = k then .ok (.tup [], r) else .error 3
theorem code_kind (bs : List UInt8) (k : Int) (id g : Nat) (H : Heap) (h : id < H.length) : AC Try.prog 42 [.pt id g 0 0, .int .u8 k] (Hs H id g bs) (rdS H id g (kindS k bs)) := by
  refine AC.body (N := 9) [] Try.func42 rfl rfl rfl (Nat.le_of_ble_eq_true rfl) fun B hB => ?_
  cases bs with
  | nil =>
    refine aw_region ?_
    refine ao1 (by decide) (o_move (v := .pt _ _ _ _) rfl) ?_
    refine ao_rd rfl (by decide) h (code_nextS [] id g) (by rintro v r e; cases e) (by rintro e r e1; cases e1; (repeat (fail)); exact e_rdX hB rfl)
  | cons c r =>
    refine aw_region ?_
    refine ao1 (by decide) (o_move (v := .pt _ _ _ _) rfl) ?_
    refine ao_rd rfl (by decide) h (code_nextS (c :: r) id g) (fun v r' e => ?_) (by rintro e r e1; cases e1); cases e
    refine ao1 (by decide) (o_move (v := .int _ _) rfl) ?_
    refine ao1 (by decide) (o_eq rfl rfl) ?_
    refine ao_need rfl (by decide) code_need (fun hb => ?_) (fun hb => (by (repeat (fail)); exact e_rdX hB (by simp only [kindS]; rw [if_neg (by simpa using hb)])))
    refine ao_nil ?_
    exact e_rd hB .nil rfl (by simp only [kindS]; rw [if_pos (by simpa using hb)]; rfl) rfl
end Go.Av

namespace Go.Av
open Go.Proofs
set_option maxRecDepth 10000
set_option linter.unusedSimpArgs false
set_option linter.unusedVariables false

theorem and127 : ∀ n : Nat, n < 256 → IntKind.u8.wrap ((BitVec.ofInt IntKind.u8.bits (n : Int) &&& BitVec.ofInt IntKind.u8.bits (127 : Int)).toNat : Int) = ((n % 128 : Nat) : Int) := by decide +kernel
theorem p128 (i : Nat) : 128 ^ i = 2 ^ (7 * i) := by rw [Nat.pow_mul]
theorem or_shift {n m i : Nat} (h : n < 128 ^ i) : n ||| m * 2 ^ (7 * i) = n + m * 128 ^ i := by
  rw [p128] at h ⊢
  have := Nat.shiftLeft_add_eq_or_of_lt h m
  rw [Nat.shiftLeft_eq] at this
  rw [Nat.or_comm, ← this, Nat.add_comm]
theorem step_lt {n c i : Nat} (h : n < 128 ^ i) : n + c % 128 * 128 ^ i < 128 ^ (i + 1) := by
  have h1 : c % 128 + 1 ≤ 128 := by omega
  have h2 := Nat.mul_le_mul_right (128 ^ i) h1
  rw [Nat.pow_succ]
  rw [Nat.add_mul, Nat.one_mul] at h2
  omega
theorem p128_le {i : Nat} (h : i ≤ 9) : 128 ^ i ≤ 9223372036854775808 := by
  have := Nat.pow_le_pow_right (n := 128) (by decide) h
  rwa [show (128 : Nat) ^ 9 = 9223372036854775808 by decide] at this
def gotR (x : Except Int (Nat × List UInt8)) : Except Int (AV × List UInt8) := match x with
  | .ok (n, r) => .ok (.int .i64 (n : Int), r)
  | .error e => .error e
set_option maxHeartbeats 0 in
theorem code_num (b0 : List UInt8) (id g : Nat) (H : Heap) (h : id < H.length) : AC Try.prog 43 [.pt id g 0 0] (Hs H id g b0) (rdS H id g (gotR (got 0 0 b0))) := by
  refine AC.body (N := 35) [.tmp 2] Try.func43 rfl rfl rfl (Nat.le_of_ble_eq_true rfl) fun B hB => ?_
  repeat (refine aw_seq ?_)
  refine aw_region ?_
  refine ao1 (by decide) (o_assign (v := .int _ _) rfl) ?_
  refine ao_nil ?_
  repeat (first | refine then_nrm ?_ | refine aw_seq ?_)
  refine aw_region ?_
  refine ao1 (by decide) (o_assign (v := .int _ _) rfl) ?_
  refine ao_nil ?_
  repeat (first | refine then_nrm ?_ | refine aw_seq ?_)
  refine aw_region ?_
  refine ao1 (by decide) (o_assign (v := .int _ _) rfl) ?_
  refine ao_nil ?_
  repeat (first | refine then_nrm ?_ | refine aw_block ?_)
  refine aw_loop (G := Nat × Nat × List UInt8) (fun s => got s.1 s.2.1 s.2.2 = got 0 0 b0 ∧ s.1 ≤ 9 ∧ s.2.1 < 128 ^ s.1) (fun s => [(0, .pt id g 0 0), (3, .int .u64 (s.2.1 : Int)), (4, .int .i64 ((7 * s.1 : Nat) : Int))]) (fun s => Hs H id g s.2.2) (fun s => s.2.2.length) (0, 0, b0) ⟨rfl, Nat.zero_le _, Nat.lt_of_sub_pos (by show 0 < 128 ^ 0 - 0; decide)⟩ (by repeat (first | exact Sub.nil | refine Sub.cons (by rfl) ?_)) (.inl (by rw [List.append_nil])) ?_
  rintro ⟨i, n, bs⟩ ⟨hgot, hi9, hn⟩
  simp only at hgot hi9 hn ⊢
  rw [← List.append_nil (Hs H id g bs)]
  have hp9 := p128_le hi9
  cases bs with
  | nil =>
    repeat (first | refine aw_seq ?_ | refine aw_block ?_)
    refine aw_region ?_
    refine ao1 (by decide) (o_move (v := .pt _ _ _ _) rfl) ?_
    refine ao_rd rfl (by decide) h (code_nextS [] id g) (by rintro v r e; cases e) (by rintro e r e1; cases e1; (repeat (first | refine then_pan ?_ | refine blk_pan ?_)); exact e_rdX hB (by rw [← hgot]; rfl))
  | cons c r =>
    have hc256 : c.toNat < 256 := c.toNat_lt
    repeat (first | refine aw_seq ?_ | refine aw_block ?_)
    refine aw_region ?_
    refine ao1 (by decide) (o_move (v := .pt _ _ _ _) rfl) ?_
    refine ao_rd rfl (by decide) h (code_nextS (c :: r) id g) (fun v r' e => ?_) (by rintro e r e1; cases e1); cases e
    refine ao1 (by decide) (o_assign (v := .int _ _) rfl) ?_
    refine ao_nil ?_
    try dsimp only [List.length_cons]
    by_cases hbad : 8 < i ∨ (0 < i ∧ c = 0)
    · have hres : gotR (got 0 0 b0) = .error 3 := by rw [← hgot, got, if_pos hbad]; rfl
      have hbad' : 8 < i ∨ (0 < i ∧ c.toNat = 0) := hbad.imp (fun e => e) fun e => ⟨e.1, by rw [e.2]; rfl⟩
      clear hgot hbad
      repeat (first | refine then_nrm ?_ | refine aw_seq ?_)
      refine aw_region ?_
      refine ao1 (by decide) (o_move (v := .int _ _) rfl) ?_
      refine ao1 (by decide) (o_lt rfl rfl) ?_
      refine ao1 (by decide) (o_move (v := .bool _) rfl) ?_
      refine ao_split rfl rfl (fun hg2 => ?_) (fun hg2 => ?_)
      · refine ao_y1 rfl rfl (by decide) (o_move (v := .int _ _) rfl) ?_
        refine ao_y1 rfl rfl (by decide) (o_gt rfl rfl) ?_
        refine ao_y1 rfl rfl (by decide) (o_move (v := .bool _) rfl) ?_
        refine ao_split rfl rfl (fun hg5 => ?_) (fun hg5 => ?_)
        · refine ao_nF rfl rfl (by decide) ?_
          refine ao_nF rfl rfl (by decide) ?_
          refine ao_y1 rfl rfl (by decide) (o_pick_t (v := .bool _) rfl rfl) ?_
          refine ao1 (by decide) (o_pick_t (v := .bool _) rfl rfl) ?_
          refine ao_need (b := false) (by refine congrArg (fun x => [AV.bool x, AV.int .i64 3]) ?_; (simp_all; omega)) (by decide) code_need (fun hb => (by cases hb)) (fun _ => (by (repeat (first | refine then_pan ?_ | refine blk_pan ?_)); exact e_rdX hB hres))
        · refine ao_y1 rfl rfl (by decide) (o_move (v := .int _ _) rfl) ?_
          refine ao_y1 rfl rfl (by decide) (o_eq rfl rfl) ?_
          refine ao_y1 rfl rfl (by decide) (o_pick_f (v := .bool _) rfl rfl) ?_
          refine ao1 (by decide) (o_pick_t (v := .bool _) rfl rfl) ?_
          refine ao_need (b := false) (by refine congrArg (fun x => [AV.bool x, AV.int .i64 3]) ?_; (simp_all; omega)) (by decide) code_need (fun hb => (by cases hb)) (fun _ => (by (repeat (first | refine then_pan ?_ | refine blk_pan ?_)); exact e_rdX hB hres))
      · refine ao_nT rfl rfl (by decide) ?_
        refine ao_nT rfl rfl (by decide) ?_
        refine ao_nT rfl rfl (by decide) ?_
        refine ao_nU rfl rfl (by decide) ?_
        refine ao_nU rfl rfl (by decide) ?_
        refine ao_nT rfl rfl (by decide) ?_
        refine ao1 (by decide) (o_pick_f (v := .bool _) rfl rfl) ?_
        refine ao_need (b := false) (by refine congrArg (fun x => [AV.bool x, AV.int .i64 3]) ?_; (simp_all; done)) (by decide) code_need (fun hb => (by cases hb)) (fun _ => (by (repeat (first | refine then_pan ?_ | refine blk_pan ?_)); exact e_rdX hB hres))
    have hok : i ≤ 8 ∧ (i = 0 ∨ c.toNat ≠ 0) := by
      refine ⟨by omega, ?_⟩
      by_cases h0 : i = 0
      · exact .inl h0
      · refine .inr fun e => hbad (.inr ⟨by omega, ?_⟩)
        exact UInt8.toNat_inj.1 e
    rw [got, if_neg hbad] at hgot
    obtain ⟨hi8, hc0⟩ := hok
    clear hbad
    repeat (first | refine then_nrm ?_ | refine aw_seq ?_)
    refine aw_joinQ ([(0, .pt id g 0 0), (3, .int .u64 (n : Int)), (4, .int .i64 ((7 * i : Nat) : Int)), (5, .int .u8 (c.toNat : Int))]) (Hs H id g r ++ []) ?_ ?_
    · repeat (fail)
      refine aw_region ?_
      refine ao1 (by decide) (o_move (v := .int _ _) rfl) ?_
      refine ao1 (by decide) (o_lt rfl rfl) ?_
      refine ao1 (by decide) (o_move (v := .bool _) rfl) ?_
      refine ao_split rfl rfl (fun hg2 => ?_) (fun hg2 => ?_)
      · refine ao_y1 rfl rfl (by decide) (o_move (v := .int _ _) rfl) ?_
        refine ao_y1 rfl rfl (by decide) (o_gt rfl rfl) ?_
        refine ao_y1 rfl rfl (by decide) (o_move (v := .bool _) rfl) ?_
        refine ao_split rfl rfl (fun hg5 => ?_) (fun hg5 => ?_)
        · refine ao_nF rfl rfl (by decide) ?_
          refine ao_nF rfl rfl (by decide) ?_
          refine ao_y1 rfl rfl (by decide) (o_pick_t (v := .bool _) rfl rfl) ?_
          refine ao1 (by decide) (o_pick_t (v := .bool _) rfl rfl) ?_
          refine ao_need (b := true) (by refine congrArg (fun x => [AV.bool x, AV.int .i64 3]) ?_; (simp_all; done)) (by decide) code_need (fun _ => ?_) (fun hb => (by cases hb))
          refine ao_nil ?_
          exact join_nrm (by repeat (first | exact Sub.nil | refine Sub.cons (by rfl) ?_)) (.inl rfl)
        · refine ao_y1 rfl rfl (by decide) (o_move (v := .int _ _) rfl) ?_
          refine ao_y1 rfl rfl (by decide) (o_eq rfl rfl) ?_
          refine ao_y1 rfl rfl (by decide) (o_pick_f (v := .bool _) rfl rfl) ?_
          refine ao1 (by decide) (o_pick_t (v := .bool _) rfl rfl) ?_
          refine ao_need (b := true) (by refine congrArg (fun x => [AV.bool x, AV.int .i64 3]) ?_; (simp_all; done)) (by decide) code_need (fun _ => ?_) (fun hb => (by cases hb))
          refine ao_nil ?_
          exact join_nrm (by repeat (first | exact Sub.nil | refine Sub.cons (by rfl) ?_)) (.inl rfl)
      · refine ao_nT rfl rfl (by decide) ?_
        refine ao_nT rfl rfl (by decide) ?_
        refine ao_nT rfl rfl (by decide) ?_
        refine ao_nU rfl rfl (by decide) ?_
        refine ao_nU rfl rfl (by decide) ?_
        refine ao_nT rfl rfl (by decide) ?_
        refine ao1 (by decide) (o_pick_f (v := .bool _) rfl rfl) ?_
        refine ao_need (b := true) (by refine congrArg (fun x => [AV.bool x, AV.int .i64 3]) ?_; (simp_all; omega)) (by decide) code_need (fun _ => ?_) (fun hb => (by cases hb))
        refine ao_nil ?_
        exact join_nrm (by repeat (first | exact Sub.nil | refine Sub.cons (by rfl) ?_)) (.inl rfl)
    have hp : 128 ^ i = 2 ^ (7 * i) := p128 i
    have hstep := step_lt (c := c.toNat) hn
    have hp10 := p128_le (i := i + 1) (by omega)
    have hmul : c.toNat % 128 * 128 ^ i < 18446744073709551616 := by omega
    repeat (first | refine then_nrm ?_ | refine aw_seq ?_)
    refine aw_region ?_
    refine ao1 (by decide) (o_move (v := .int _ _) rfl) ?_
    refine ao1 (by decide) (o_move (v := .int _ _) rfl) ?_
    refine ao1 (by decide) (o_and (r := ((c.toNat % 128 : Nat) : Int)) rfl rfl (and127 _ hc256)) ?_
    refine ao1 (by decide) (o_conv_int (r := ((c.toNat % 128 : Nat) : Int)) rfl (u64_wrap _ (by omega))) ?_
    refine ao1 (by decide) (o_move (v := .int _ _) rfl) ?_
    refine ao1 (by decide) (o_shl (r := ((c.toNat % 128 * 2 ^ (7 * i) : Nat) : Int)) rfl rfl (by omega) (by rw [show min ((7 * i : Nat) : Int).toNat IntKind.u64.bits = 7 * i by show min _ 64 = _; omega, show ((c.toNat % 128 : Nat) : Int) * 2 ^ (7 * i) = ((c.toNat % 128 * 2 ^ (7 * i) : Nat) : Int) by push_cast; rfl]; exact u64_wrap _ (by rw [← hp]; exact hmul))) ?_
    refine ao1 (by decide) (o_or (r := ((n + c.toNat % 128 * 128 ^ i : Nat) : Int)) rfl rfl (by rw [u64_or _ _ (by omega) (by rw [← hp]; exact hmul), or_shift hn])) ?_
    refine ao1 (by decide) (o_assign (v := .int _ _) rfl) ?_
    refine ao_nil ?_
    repeat (first | refine then_nrm ?_ | refine aw_seq ?_)
    refine aw_region ?_
    refine ao1 (by decide) (o_move (v := .int _ _) rfl) ?_
    refine ao1 (by decide) (o_lt rfl rfl) ?_
    refine ao_nil ?_
    generalize hm : n + c.toNat % 128 * 128 ^ i = m at hgot hstep
    repeat (refine then_nrm ?_)
    refine aw_cond rfl (fun hc => ?_) (fun hc => ?_)
    · have hlt : c.toNat < 128 := by simp at hc; omega
      rw [if_pos hlt] at hgot
      by_cases hbig : 4611686018427387904 < m
      · rw [if_pos hbig] at hgot
        have hres : gotR (got 0 0 b0) = .error 3 := by rw [← hgot]; rfl
        repeat (refine aw_seq ?_)
        refine aw_region ?_
        refine ao1 (by decide) (o_move (v := .int _ _) rfl) ?_
        refine ao1 (by decide) (o_le rfl rfl) ?_
        refine ao_need (b := false) (by refine congrArg (fun x => [AV.bool x, AV.int .i64 3]) ?_; (simp_all; omega)) (by decide) code_need (fun hb => (by cases hb)) (fun _ => (by (repeat (first | refine then_pan ?_ | refine blk_pan ?_)); exact e_rdX hB hres))
      · rw [if_neg hbig] at hgot
        have hres : gotR (got 0 0 b0) = .ok (.int .i64 (m : Int), r) := by rw [← hgot]; rfl
        repeat (refine aw_seq ?_)
        refine aw_region ?_
        refine ao1 (by decide) (o_move (v := .int _ _) rfl) ?_
        refine ao1 (by decide) (o_le rfl rfl) ?_
        refine ao_need (b := true) (by refine congrArg (fun x => [AV.bool x, AV.int .i64 3]) ?_; (simp_all; omega)) (by decide) code_need (fun _ => ?_) (fun hb => (by cases hb))
        refine ao_nil ?_
        repeat (first | refine then_nrm ?_ | refine aw_seq ?_)
        refine aw_region ?_
        refine ao1 (by decide) (o_move (v := .int _ _) rfl) ?_
        refine ao1 (by decide) (o_conv_int (r := (m : Int)) rfl (wrap64_ok (by omega) (by omega))) ?_
        refine ao1 (by decide) (o_assign (v := .int _ _) rfl) ?_
        refine ao_nil ?_
        repeat (first | refine then_nrm ?_ | refine then_ret ?_ | refine blk_ret ?_ | refine aw_ret ?_)
        exact e_rd hB (r_tmp rfl .nil) rfl hres rfl
    · have hlt : ¬ c.toNat < 128 := by simp at hc; omega
      rw [if_neg hlt] at hgot
      repeat (first | refine then_nrm ?_ | refine blk_nrm ?_ | refine aw_skip ?_)
      refine aw_region ?_
      refine ao1 (by decide) (o_move (v := .int _ _) rfl) ?_
      refine ao1 (by decide) (o_add (r := ((7 * (i + 1) : Nat) : Int)) rfl rfl (by rw [show ((7 * i : Nat) : Int) + 7 = ((7 * (i + 1) : Nat) : Int) by omega]; exact wrap64_ok (by omega) (by omega))) ?_
      refine ao1 (by decide) (o_assign (v := .int _ _) rfl) ?_
      refine ao_nil ?_
      repeat (refine then_nrm ?_)
      exact ⟨(i + 1, m, r), by simp, ⟨hgot, by simp only; omega, hstep⟩, (by repeat (first | exact Sub.nil | refine Sub.cons (by rfl) ?_)), .inl (by rw [List.append_nil])⟩
end Go.Av

