/- Parts of the proof: rules for an abstract memory, plain laws, and walks through the program. -/
import Derived.Test.YtpidemmdmmgalaaGreatDoorSeatBP0
import Derived.Test.YtpidemmdmmgalaaGreatDoorProg
import Derived.KernelRfl
import Derived.Test.YtpidemmdmmgalaaGreatDoorSeatBP1
import Derived.Test.YtpidemmdmmgalaaGreatDoorSeatBP2
import Derived.Laws.StructEq
set_option maxRecDepth 10000
set_option linter.unusedVariables false
set_option linter.unusedSimpArgs false
namespace Go.Av
open Go.Proofs
instance ty1:TyI Tryz.prog 1 false 1:=⟨by kernel_rfl,by kernel_rfl⟩
instance ty2:TyI Tryz.prog 2 false 1:=⟨by kernel_rfl,by kernel_rfl⟩
instance by2:ByI Tryz.prog 2 8:=⟨by kernel_rfl⟩
instance ud2:UdI Tryz.prog 2 (.int .i64):=⟨by kernel_rfl⟩
instance zc2:ZcI Tryz.prog 2 [.int .i64 0]:=⟨.int .i64 0,by kernel_rfl,rfl,rfl⟩
instance ty3:TyI Tryz.prog 3 false 1:=⟨by kernel_rfl,by kernel_rfl⟩
instance by3:ByI Tryz.prog 3 8:=⟨by kernel_rfl⟩
instance ud3:UdI Tryz.prog 3 (.int .i64):=⟨by kernel_rfl⟩
instance zc3:ZcI Tryz.prog 3 [.int .i64 0]:=⟨.int .i64 0,by kernel_rfl,rfl,rfl⟩
instance ty4:TyI Tryz.prog 4 false 1:=⟨by kernel_rfl,by kernel_rfl⟩
instance by4:ByI Tryz.prog 4 1:=⟨by kernel_rfl⟩
instance ud4:UdI Tryz.prog 4 .bool:=⟨by kernel_rfl⟩
instance zc4:ZcI Tryz.prog 4 [.bool false]:=⟨.bool false,by kernel_rfl,rfl,rfl⟩
instance ty5:TyI Tryz.prog 5 false 1:=⟨by kernel_rfl,by kernel_rfl⟩
instance by5:ByI Tryz.prog 5 1:=⟨by kernel_rfl⟩
instance ud5:UdI Tryz.prog 5 (.int .u8):=⟨by kernel_rfl⟩
instance zc5:ZcI Tryz.prog 5 [.int .u8 0]:=⟨.int .u8 0,by kernel_rfl,rfl,rfl⟩
instance ty9:TyI Tryz.prog 9 false 1:=⟨by kernel_rfl,by kernel_rfl⟩
instance ud9:UdI Tryz.prog 9 .string:=⟨by kernel_rfl⟩
instance ni9:NiI Tryz.prog 9:=⟨.inr Y1z⟩
instance ud21:UdI Tryz.prog 21 (.int .i32):=⟨by kernel_rfl⟩
instance ty23:TyI Tryz.prog 23 true 7:=⟨by kernel_rfl,by kernel_rfl⟩
instance q15z:FldI Tryz.prog 23 0 0 3:=⟨by kernel_rfl⟩
instance q15n:FldI Tryz.prog 23 1 1 3:=⟨by kernel_rfl⟩
instance q159:FldI Tryz.prog 23 2 2 3:=⟨by kernel_rfl⟩
instance q15u:FldI Tryz.prog 23 3 3 9:=⟨by kernel_rfl⟩
instance q14p:FldI Tryz.prog 23 4 4 4:=⟨by kernel_rfl⟩
instance q15x:FldI Tryz.prog 23 5 5 2:=⟨by kernel_rfl⟩
instance q156:FldI Tryz.prog 23 6 6 3:=⟨by kernel_rfl⟩
instance st23:StI Tryz.prog 23 [(0,1),(1,1),(2,1),(3,1),(4,1),(5,1),(6,1)]:=⟨by kernel_rfl⟩
instance zc23:ZcI Tryz.prog 23 [.int .i64 0,.int .i64 0,.int .i64 0,.str ⟨#[]⟩,.bool false,.int .i64 0,.int .i64 0]:=⟨.agg #[.int .i64 0,.int .i64 0,.int .i64 0,.string ⟨#[]⟩,.bool false,.int .i64 0,.int .i64 0],by kernel_rfl,rfl,rfl⟩
instance ty24:TyI Tryz.prog 24 false 1:=⟨by kernel_rfl,by kernel_rfl⟩
instance by24:ByI Tryz.prog 24 24:=⟨by kernel_rfl⟩
instance sl24:SlI Tryz.prog 24 3:=⟨by kernel_rfl⟩
instance ni24:NiI Tryz.prog 24:=⟨.inl ⟨3,by kernel_rfl⟩⟩
instance zc24:ZcI Tryz.prog 24 [.nsl]:=⟨.slice none 0 0,by kernel_rfl,rfl,rfl⟩
instance ty26:TyI Tryz.prog 26 true 13:=⟨by kernel_rfl,by kernel_rfl⟩
instance q151:FldI Tryz.prog 26 0 0 3:=⟨by kernel_rfl⟩
instance q15d:FldI Tryz.prog 26 1 1 23:=⟨by kernel_rfl⟩
instance q14s:FldI Tryz.prog 26 2 8 24:=⟨by kernel_rfl⟩
instance q14y:FldI Tryz.prog 26 3 9 3:=⟨by kernel_rfl⟩
instance q15s:FldI Tryz.prog 26 4 10 3:=⟨by kernel_rfl⟩
instance q15b:FldI Tryz.prog 26 5 11 2:=⟨by kernel_rfl⟩
instance q15f:FldI Tryz.prog 26 6 12 24:=⟨by kernel_rfl⟩
instance st26:StI Tryz.prog 26 [(0,1),(1,7),(8,1),(9,1),(10,1),(11,1),(12,1)]:=⟨by kernel_rfl⟩
instance zc26:ZcI Tryz.prog 26 [.int .i64 0,.int .i64 0,.int .i64 0,.int .i64 0,.str ⟨#[]⟩,.bool false,.int .i64 0,.int .i64 0,.nsl,.int .i64 0,.int .i64 0,.int .i64 0,.nsl]:=⟨.agg #[.int .i64 0,.int .i64 0,.int .i64 0,.int .i64 0,.string ⟨#[]⟩,.bool false,.int .i64 0,.int .i64 0,.slice none 0 0,.int .i64 0,.int .i64 0,.int .i64 0,.slice none 0 0],by kernel_rfl,rfl,rfl⟩
instance ty27:TyI Tryz.prog 27 false 1:=⟨by kernel_rfl,by kernel_rfl⟩
instance by27:ByI Tryz.prog 27 24:=⟨by kernel_rfl⟩
instance sl27:SlI Tryz.prog 27 5:=⟨by kernel_rfl⟩
instance ni27:NiI Tryz.prog 27:=⟨.inl ⟨5,by kernel_rfl⟩⟩
instance zc27:ZcI Tryz.prog 27 [.nsl]:=⟨.slice none 0 0,by kernel_rfl,rfl,rfl⟩
instance ty30:TyI Tryz.prog 30 false 1:=⟨by kernel_rfl,by kernel_rfl⟩
instance no30:NoI Tryz.prog 30:=⟨by kernel_rfl⟩
instance zc30:ZcI Tryz.prog 30 [.int .i64 0]:=⟨.int .i64 0,by kernel_rfl,rfl,rfl⟩
instance ty40:TyI Tryz.prog 40 false 1:=⟨by kernel_rfl,by kernel_rfl⟩
instance sl40:SlI Tryz.prog 40 74:=⟨by kernel_rfl⟩
instance ni40:NiI Tryz.prog 40:=⟨.inl ⟨74,by kernel_rfl⟩⟩
instance ty42:TyI Tryz.prog 42 false 1:=⟨by kernel_rfl,by kernel_rfl⟩
instance sl42:SlI Tryz.prog 42 98:=⟨by kernel_rfl⟩
instance ni42:NiI Tryz.prog 42:=⟨.inl ⟨98,by kernel_rfl⟩⟩
instance ty43:TyI Tryz.prog 43 false 1:=⟨by kernel_rfl,by kernel_rfl⟩
instance sl43:SlI Tryz.prog 43 95:=⟨by kernel_rfl⟩
instance ni43:NiI Tryz.prog 43:=⟨.inl ⟨95,by kernel_rfl⟩⟩
instance ty45:TyI Tryz.prog 45 true 9:=⟨by kernel_rfl,by kernel_rfl⟩
instance q14u:FldI Tryz.prog 45 0 0 40:=⟨by kernel_rfl⟩
instance q15h:FldI Tryz.prog 45 1 1 24:=⟨by kernel_rfl⟩
instance q15m:FldI Tryz.prog 45 2 2 24:=⟨by kernel_rfl⟩
instance q15o:FldI Tryz.prog 45 3 3 2:=⟨by kernel_rfl⟩
instance q15q:FldI Tryz.prog 45 4 4 42:=⟨by kernel_rfl⟩
instance q14z:FldI Tryz.prog 45 5 5 43:=⟨by kernel_rfl⟩
instance q15r:FldI Tryz.prog 45 6 6 2:=⟨by kernel_rfl⟩
instance q150:FldI Tryz.prog 45 7 7 3:=⟨by kernel_rfl⟩
instance q15v:FldI Tryz.prog 45 8 8 3:=⟨by kernel_rfl⟩
instance st45:StI Tryz.prog 45 [(0,1),(1,1),(2,1),(3,1),(4,1),(5,1),(6,1),(7,1),(8,1)]:=⟨by kernel_rfl⟩
instance zc45:ZcI Tryz.prog 45 [.nsl,.nsl,.nsl,.int .i64 0,.nsl,.nsl,.int .i64 0,.int .i64 0,.int .i64 0]:=⟨.agg #[.slice none 0 0,.slice none 0 0,.slice none 0 0,.int .i64 0,.slice none 0 0,.slice none 0 0,.int .i64 0,.int .i64 0,.int .i64 0],by kernel_rfl,rfl,rfl⟩
instance ty47:TyI Tryz.prog 47 true 13:=⟨by kernel_rfl,by kernel_rfl⟩
instance q15y:FldI Tryz.prog 47 0 0 40:=⟨by kernel_rfl⟩
instance q153:FldI Tryz.prog 47 1 1 3:=⟨by kernel_rfl⟩
instance q14w:FldI Tryz.prog 47 2 2 3:=⟨by kernel_rfl⟩
instance q157:FldI Tryz.prog 47 3 3 27:=⟨by kernel_rfl⟩
instance q161:FldI Tryz.prog 47 4 4 45:=⟨by kernel_rfl⟩
instance st47:StI Tryz.prog 47 [(0,1),(1,1),(2,1),(3,1),(4,9)]:=⟨by kernel_rfl⟩
instance zc47:ZcI Tryz.prog 47 [.nsl,.int .i64 0,.int .i64 0,.nsl,.nsl,.nsl,.nsl,.int .i64 0,.nsl,.nsl,.int .i64 0,.int .i64 0,.int .i64 0]:=⟨.agg #[.slice none 0 0,.int .i64 0,.int .i64 0,.slice none 0 0,.slice none 0 0,.slice none 0 0,.slice none 0 0,.int .i64 0,.slice none 0 0,.slice none 0 0,.int .i64 0,.int .i64 0,.int .i64 0],by kernel_rfl,rfl,rfl⟩
instance sl62:SlI Tryz.prog 62 27:=⟨by kernel_rfl⟩
instance ni62:NiI Tryz.prog 62:=⟨.inl ⟨27,by kernel_rfl⟩⟩
instance ty74:TyI Tryz.prog 74 true 3:=⟨by kernel_rfl,by kernel_rfl⟩
instance by74:ByI Tryz.prog 74 32:=⟨by kernel_rfl⟩
instance q15j:FldI Tryz.prog 74 0 0 3:=⟨by kernel_rfl⟩
instance q15w:FldI Tryz.prog 74 1 1 3:=⟨by kernel_rfl⟩
instance q160:FldI Tryz.prog 74 2 2 9:=⟨by kernel_rfl⟩
instance st74:StI Tryz.prog 74 [(0,1),(1,1),(2,1)]:=⟨by kernel_rfl⟩
instance zc74:ZcI Tryz.prog 74 [.int .i64 0,.int .i64 0,.str ⟨#[]⟩]:=⟨.agg #[.int .i64 0,.int .i64 0,.string ⟨#[]⟩],by kernel_rfl,rfl,rfl⟩
instance ty77:TyI Tryz.prog 77 false 1:=⟨by kernel_rfl,by kernel_rfl⟩
instance ud77:UdI Tryz.prog 77 (.int .u64):=⟨by kernel_rfl⟩
instance q14t:FldI Tryz.prog 84 0 0 27:=⟨by kernel_rfl⟩
instance q15t:FldI Tryz.prog 84 1 1 4:=⟨by kernel_rfl⟩
instance st84:StI Tryz.prog 84 [(0,1),(1,1)]:=⟨by kernel_rfl⟩
instance zc84:ZcI Tryz.prog 84 [.nsl,.bool false]:=⟨.agg #[.slice none 0 0,.bool false],by kernel_rfl,rfl,rfl⟩
instance ty95:TyI Tryz.prog 95 true 4:=⟨by kernel_rfl,by kernel_rfl⟩
instance by95:ByI Tryz.prog 95 48:=⟨by kernel_rfl⟩
instance q154:FldI Tryz.prog 95 0 0 3:=⟨by kernel_rfl⟩
instance q155:FldI Tryz.prog 95 1 1 24:=⟨by kernel_rfl⟩
instance q14q:FldI Tryz.prog 95 2 2 2:=⟨by kernel_rfl⟩
instance q15a:FldI Tryz.prog 95 3 3 2:=⟨by kernel_rfl⟩
instance st95:StI Tryz.prog 95 [(0,1),(1,1),(2,1),(3,1)]:=⟨by kernel_rfl⟩
instance zc95:ZcI Tryz.prog 95 [.int .i64 0,.nsl,.int .i64 0,.int .i64 0]:=⟨.agg #[.int .i64 0,.slice none 0 0,.int .i64 0,.int .i64 0],by kernel_rfl,rfl,rfl⟩
instance ty98:TyI Tryz.prog 98 true 13:=⟨by kernel_rfl,by kernel_rfl⟩
instance by98:ByI Tryz.prog 98 128:=⟨by kernel_rfl⟩
instance q15l:FldI Tryz.prog 98 0 0 3:=⟨by kernel_rfl⟩
instance q14x:FldI Tryz.prog 98 1 1 23:=⟨by kernel_rfl⟩
instance q14r:FldI Tryz.prog 98 2 8 24:=⟨by kernel_rfl⟩
instance q158:FldI Tryz.prog 98 3 9 3:=⟨by kernel_rfl⟩
instance q152:FldI Tryz.prog 98 4 10 2:=⟨by kernel_rfl⟩
instance q14v:FldI Tryz.prog 98 5 11 2:=⟨by kernel_rfl⟩
instance q15k:FldI Tryz.prog 98 6 12 2:=⟨by kernel_rfl⟩
instance st98:StI Tryz.prog 98 [(0,1),(1,7),(8,1),(9,1),(10,1),(11,1),(12,1)]:=⟨by kernel_rfl⟩
instance zc98:ZcI Tryz.prog 98 [.int .i64 0,.int .i64 0,.int .i64 0,.int .i64 0,.str ⟨#[]⟩,.bool false,.int .i64 0,.int .i64 0,.nsl,.int .i64 0,.int .i64 0,.int .i64 0,.int .i64 0]:=⟨.agg #[.int .i64 0,.int .i64 0,.int .i64 0,.int .i64 0,.string ⟨#[]⟩,.bool false,.int .i64 0,.int .i64 0,.slice none 0 0,.int .i64 0,.int .i64 0,.int .i64 0,.int .i64 0],by kernel_rfl,rfl,rfl⟩
instance q17x:TyI Tryz.prog 122 false 1:=⟨by kernel_rfl,by kernel_rfl⟩
instance q162:ZcI Tryz.prog 122 [.nfn]:=⟨.nilFunc,by kernel_rfl,rfl,rfl⟩
instance q17l:SlI Tryz.prog 127 129:=⟨by kernel_rfl⟩
instance q16c:NiI Tryz.prog 127:=⟨.inl ⟨129,by kernel_rfl⟩⟩
instance q18s:TyI Tryz.prog 129 true 2:=⟨by kernel_rfl,by kernel_rfl⟩
instance q18d:ByI Tryz.prog 129 16:=⟨by kernel_rfl⟩
instance q17i:ArI Tryz.prog 129 2 3:=⟨by kernel_rfl⟩
instance q19j:ZcI Tryz.prog 129 [.int .i64 0,.int .i64 0]:=⟨.agg #[.int .i64 0,.int .i64 0],by kernel_rfl,rfl,rfl⟩
instance q17t:UdI Tryz.prog 134 (.int .u64):=⟨by kernel_rfl⟩
instance q16x:TyI Tryz.prog 153 false 1:=⟨by kernel_rfl,by kernel_rfl⟩
instance q18b:SlI Tryz.prog 153 4:=⟨by kernel_rfl⟩
instance q1ac:ZcI Tryz.prog 153 [.nsl]:=⟨.slice none 0 0,by kernel_rfl,rfl,rfl⟩
instance q17u:TyI Tryz.prog 166 true 4:=⟨by kernel_rfl,by kernel_rfl⟩
instance q16o:ArI Tryz.prog 166 4 77:=⟨by kernel_rfl⟩
instance q17c:ZcI Tryz.prog 166 [.int .u64 0,.int .u64 0,.int .u64 0,.int .u64 0]:=⟨.agg #[.int .u64 0,.int .u64 0,.int .u64 0,.int .u64 0],by kernel_rfl,rfl,rfl⟩
instance q14b:FldI Tryz.prog 171 0 0 27:=⟨by kernel_rfl⟩
instance q1a6:StI Tryz.prog 171 [(0,1)]:=⟨by kernel_rfl⟩
instance q1a5:ZcI Tryz.prog 171 [.nsl]:=⟨.agg #[.slice none 0 0],by kernel_rfl,rfl,rfl⟩
instance q146:FldI Tryz.prog 178 0 0 45:=⟨by kernel_rfl⟩
instance q181:StI Tryz.prog 178 [(0,9)]:=⟨by kernel_rfl⟩
instance q18z:ZcI Tryz.prog 178 [.nsl,.nsl,.nsl,.int .i64 0,.nsl,.nsl,.int .i64 0,.int .i64 0,.int .i64 0]:=⟨.agg #[.slice none 0 0,.slice none 0 0,.slice none 0 0,.int .i64 0,.slice none 0 0,.slice none 0 0,.int .i64 0,.int .i64 0,.int .i64 0],by kernel_rfl,rfl,rfl⟩
instance q1ae:SlI Tryz.prog 223 226:=⟨by kernel_rfl⟩
instance q169:NiI Tryz.prog 223:=⟨.inl ⟨226,by kernel_rfl⟩⟩
instance q18i:TyI Tryz.prog 226 true 8:=⟨by kernel_rfl,by kernel_rfl⟩
instance q176:ByI Tryz.prog 226 72:=⟨by kernel_rfl⟩
instance q13s:FldI Tryz.prog 226 0 0 3:=⟨by kernel_rfl⟩
instance q13r:FldI Tryz.prog 226 1 1 23:=⟨by kernel_rfl⟩
instance q1ab:StI Tryz.prog 226 [(0,1),(1,7)]:=⟨by kernel_rfl⟩
instance q172:ZcI Tryz.prog 226 [.int .i64 0,.int .i64 0,.int .i64 0,.int .i64 0,.str ⟨#[]⟩,.bool false,.int .i64 0,.int .i64 0]:=⟨.agg #[.int .i64 0,.int .i64 0,.int .i64 0,.int .i64 0,.string ⟨#[]⟩,.bool false,.int .i64 0,.int .i64 0],by kernel_rfl,rfl,rfl⟩
instance q18l:SlI Tryz.prog 277 2:=⟨by kernel_rfl⟩
instance q163:NiI Tryz.prog 277:=⟨.inl ⟨2,by kernel_rfl⟩⟩
instance q19v:TyI Tryz.prog 281 false 1:=⟨by kernel_rfl,by kernel_rfl⟩
instance q16y:SlI Tryz.prog 281 24:=⟨by kernel_rfl⟩
instance q147:FldI Tryz.prog 283 0 0 40:=⟨by kernel_rfl⟩
instance q13v:FldI Tryz.prog 283 1 1 153:=⟨by kernel_rfl⟩
instance q140:FldI Tryz.prog 283 2 2 281:=⟨by kernel_rfl⟩
instance q14g:FldI Tryz.prog 283 3 3 23:=⟨by kernel_rfl⟩
instance q19d:StI Tryz.prog 283 [(0,1),(1,1),(2,1),(3,7)]:=⟨by kernel_rfl⟩
instance q19x:ZcI Tryz.prog 283 [.nsl,.nsl,.nsl,.int .i64 0,.int .i64 0,.int .i64 0,.str ⟨#[]⟩,.bool false,.int .i64 0,.int .i64 0]:=⟨.agg #[.slice none 0 0,.slice none 0 0,.slice none 0 0,.int .i64 0,.int .i64 0,.int .i64 0,.string ⟨#[]⟩,.bool false,.int .i64 0,.int .i64 0],by kernel_rfl,rfl,rfl⟩
instance q196:ArI Tryz.prog 290 64 5:=⟨by kernel_rfl⟩
instance fn8:FnI Tryz.prog 8:=⟨by kernel_rfl⟩
instance fn9:FnI Tryz.prog 9:=⟨by kernel_rfl⟩
instance fn10:FnI Tryz.prog 10:=⟨by kernel_rfl⟩
instance fn11:FnI Tryz.prog 11:=⟨by kernel_rfl⟩
instance fn12:FnI Tryz.prog 12:=⟨by kernel_rfl⟩
instance fn13:FnI Tryz.prog 13:=⟨by kernel_rfl⟩
instance fn14:FnI Tryz.prog 14:=⟨by kernel_rfl⟩
instance fn15:FnI Tryz.prog 15:=⟨by kernel_rfl⟩
instance fn17:FnI Tryz.prog 17:=⟨by kernel_rfl⟩
instance fn18:FnI Tryz.prog 18:=⟨by kernel_rfl⟩
instance fn21:FnI Tryz.prog 21:=⟨by kernel_rfl⟩
instance fn22:FnI Tryz.prog 22:=⟨by kernel_rfl⟩
instance fn24:FnI Tryz.prog 24:=⟨by kernel_rfl⟩
instance fn26:FnI Tryz.prog 26:=⟨by kernel_rfl⟩
instance fn28:FnI Tryz.prog 28:=⟨by kernel_rfl⟩
instance fn29:FnI Tryz.prog 29:=⟨by kernel_rfl⟩
instance fn30:FnI Tryz.prog 30:=⟨by kernel_rfl⟩
instance fn31:FnI Tryz.prog 31:=⟨by kernel_rfl⟩
instance fn32:FnI Tryz.prog 32:=⟨by kernel_rfl⟩
instance fn33:FnI Tryz.prog 33:=⟨by kernel_rfl⟩
instance fn34:FnI Tryz.prog 34:=⟨by kernel_rfl⟩
instance fn35:FnI Tryz.prog 35:=⟨by kernel_rfl⟩
instance fn36:FnI Tryz.prog 36:=⟨by kernel_rfl⟩
instance fn37:FnI Tryz.prog 37:=⟨by kernel_rfl⟩
instance fn38:FnI Tryz.prog 38:=⟨by kernel_rfl⟩
instance fn39:FnI Tryz.prog 39:=⟨by kernel_rfl⟩
instance fn40:FnI Tryz.prog 40:=⟨by kernel_rfl⟩
instance fn43:FnI Tryz.prog 43:=⟨by kernel_rfl⟩
instance fn44:FnI Tryz.prog 44:=⟨by kernel_rfl⟩
instance fn45:FnI Tryz.prog 45:=⟨by kernel_rfl⟩
instance fn46:FnI Tryz.prog 46:=⟨by kernel_rfl⟩
instance fn47:FnI Tryz.prog 47:=⟨by kernel_rfl⟩
instance fn48:FnI Tryz.prog 48:=⟨by kernel_rfl⟩
instance fn49:FnI Tryz.prog 49:=⟨by kernel_rfl⟩
instance fn50:FnI Tryz.prog 50:=⟨by kernel_rfl⟩
instance fn51:FnI Tryz.prog 51:=⟨by kernel_rfl⟩
instance fn52:FnI Tryz.prog 52:=⟨by kernel_rfl⟩
instance fn56:FnI Tryz.prog 56:=⟨by kernel_rfl⟩
instance fn59:FnI Tryz.prog 59:=⟨by kernel_rfl⟩
instance fn60:FnI Tryz.prog 60:=⟨by kernel_rfl⟩
instance fn61:FnI Tryz.prog 61:=⟨by kernel_rfl⟩
instance fn62:FnI Tryz.prog 62:=⟨by kernel_rfl⟩
instance fn63:FnI Tryz.prog 63:=⟨by kernel_rfl⟩
instance fn64:FnI Tryz.prog 64:=⟨by kernel_rfl⟩
instance fn65:FnI Tryz.prog 65:=⟨by kernel_rfl⟩
instance fn66:FnI Tryz.prog 66:=⟨by kernel_rfl⟩
instance fn67:FnI Tryz.prog 67:=⟨by kernel_rfl⟩
instance fn68:FnI Tryz.prog 68:=⟨by kernel_rfl⟩
instance fn69:FnI Tryz.prog 69:=⟨by kernel_rfl⟩
instance fn70:FnI Tryz.prog 70:=⟨by kernel_rfl⟩
instance fn71:FnI Tryz.prog 71:=⟨by kernel_rfl⟩
instance fn72:FnI Tryz.prog 72:=⟨by kernel_rfl⟩
instance fn73:FnI Tryz.prog 73:=⟨by kernel_rfl⟩
instance fn74:FnI Tryz.prog 74:=⟨by kernel_rfl⟩
instance fn75:FnI Tryz.prog 75:=⟨by kernel_rfl⟩
instance fn76:FnI Tryz.prog 76:=⟨by kernel_rfl⟩
instance fn77:FnI Tryz.prog 77:=⟨by kernel_rfl⟩
instance fn78:FnI Tryz.prog 78:=⟨by kernel_rfl⟩
instance fn79:FnI Tryz.prog 79:=⟨by kernel_rfl⟩
instance fn80:FnI Tryz.prog 80:=⟨by kernel_rfl⟩
instance fn81:FnI Tryz.prog 81:=⟨by kernel_rfl⟩
instance fn82:FnI Tryz.prog 82:=⟨by kernel_rfl⟩
instance fn83:FnI Tryz.prog 83:=⟨by kernel_rfl⟩
instance fn84:FnI Tryz.prog 84:=⟨by kernel_rfl⟩
instance fn85:FnI Tryz.prog 85:=⟨by kernel_rfl⟩
instance fn86:FnI Tryz.prog 86:=⟨by kernel_rfl⟩
instance fn87:FnI Tryz.prog 87:=⟨by kernel_rfl⟩
instance fn89:FnI Tryz.prog 89:=⟨by kernel_rfl⟩
instance fn90:FnI Tryz.prog 90:=⟨by kernel_rfl⟩
instance fn91:FnI Tryz.prog 91:=⟨by kernel_rfl⟩
instance fn92:FnI Tryz.prog 92:=⟨by kernel_rfl⟩
instance fn93:FnI Tryz.prog 93:=⟨by kernel_rfl⟩
instance fn94:FnI Tryz.prog 94:=⟨by kernel_rfl⟩
instance fn95:FnI Tryz.prog 95:=⟨by kernel_rfl⟩
instance fn96:FnI Tryz.prog 96:=⟨by kernel_rfl⟩
instance q18w:FnI Tryz.prog 105:=⟨by kernel_rfl⟩
instance q168:FnI Tryz.prog 106:=⟨by kernel_rfl⟩
instance q19t:FnI Tryz.prog 107:=⟨by kernel_rfl⟩
instance q166:FnI Tryz.prog 108:=⟨by kernel_rfl⟩
instance q1a7:FnI Tryz.prog 109:=⟨by kernel_rfl⟩
instance q18x:FnI Tryz.prog 110:=⟨by kernel_rfl⟩
instance q17e:FnI Tryz.prog 111:=⟨by kernel_rfl⟩
instance q19k:FnI Tryz.prog 112:=⟨by kernel_rfl⟩
instance q16w:FnI Tryz.prog 113:=⟨by kernel_rfl⟩
instance q18u:FnI Tryz.prog 114:=⟨by kernel_rfl⟩
instance q177:FnI Tryz.prog 115:=⟨by kernel_rfl⟩
instance q18p:FnI Tryz.prog 116:=⟨by kernel_rfl⟩
instance q17g:FnI Tryz.prog 117:=⟨by kernel_rfl⟩
instance q199:FnI Tryz.prog 118:=⟨by kernel_rfl⟩
instance q18q:FnI Tryz.prog 119:=⟨by kernel_rfl⟩
instance q16l:FnI Tryz.prog 120:=⟨by kernel_rfl⟩
instance q17p:FnI Tryz.prog 121:=⟨by kernel_rfl⟩
instance q16b:FnI Tryz.prog 122:=⟨by kernel_rfl⟩
instance q18c:FnI Tryz.prog 123:=⟨by kernel_rfl⟩
instance q17f:FnI Tryz.prog 124:=⟨by kernel_rfl⟩
instance q18f:FnI Tryz.prog 125:=⟨by kernel_rfl⟩
instance q16e:FnI Tryz.prog 126:=⟨by kernel_rfl⟩
instance q189:FnI Tryz.prog 127:=⟨by kernel_rfl⟩
instance q19b:FnI Tryz.prog 128:=⟨by kernel_rfl⟩
instance q16k:FnI Tryz.prog 129:=⟨by kernel_rfl⟩
instance q16u:FnI Tryz.prog 130:=⟨by kernel_rfl⟩
instance q187:FnI Tryz.prog 131:=⟨by kernel_rfl⟩
instance q19p:FnI Tryz.prog 132:=⟨by kernel_rfl⟩
instance q18y:FnI Tryz.prog 133:=⟨by kernel_rfl⟩
instance q184:FnI Tryz.prog 134:=⟨by kernel_rfl⟩
instance q19u:FnI Tryz.prog 144:=⟨by kernel_rfl⟩
instance q18h:FnI Tryz.prog 145:=⟨by kernel_rfl⟩
instance q17s:FnI Tryz.prog 146:=⟨by kernel_rfl⟩
instance q16g:FnI Tryz.prog 147:=⟨by kernel_rfl⟩
instance q17k:FnI Tryz.prog 148:=⟨by kernel_rfl⟩
instance q17y:FnI Tryz.prog 149:=⟨by kernel_rfl⟩
instance q18j:FnI Tryz.prog 150:=⟨by kernel_rfl⟩
instance q16j:FnI Tryz.prog 151:=⟨by kernel_rfl⟩
instance q19i:FnI Tryz.prog 152:=⟨by kernel_rfl⟩
instance q17b:FnI Tryz.prog 153:=⟨by kernel_rfl⟩
instance q18v:FnI Tryz.prog 154:=⟨by kernel_rfl⟩
instance q16d:FnI Tryz.prog 155:=⟨by kernel_rfl⟩
instance q19y:FnI Tryz.prog 156:=⟨by kernel_rfl⟩
instance q179:FnI Tryz.prog 157:=⟨by kernel_rfl⟩
instance q16q:FnI Tryz.prog 158:=⟨by kernel_rfl⟩
instance q19g:FnI Tryz.prog 159:=⟨by kernel_rfl⟩
instance q1af:FnI Tryz.prog 160:=⟨by kernel_rfl⟩
instance q195:FnI Tryz.prog 161:=⟨by kernel_rfl⟩
instance q17j:FnI Tryz.prog 162:=⟨by kernel_rfl⟩
instance q18g:FnI Tryz.prog 163:=⟨by kernel_rfl⟩
instance q182:FnI Tryz.prog 164:=⟨by kernel_rfl⟩
instance q17w:FnI Tryz.prog 165:=⟨by kernel_rfl⟩
instance q194:FnI Tryz.prog 166:=⟨by kernel_rfl⟩
instance q198:FnI Tryz.prog 167:=⟨by kernel_rfl⟩
instance q171:FnI Tryz.prog 168:=⟨by kernel_rfl⟩
instance q1a0:FnI Tryz.prog 169:=⟨by kernel_rfl⟩
instance q17n:FnI Tryz.prog 170:=⟨by kernel_rfl⟩
instance q17q:FnI Tryz.prog 171:=⟨by kernel_rfl⟩
instance q19r:FnI Tryz.prog 186:=⟨by kernel_rfl⟩
instance q192:FnI Tryz.prog 187:=⟨by kernel_rfl⟩
instance q180:FnI Tryz.prog 188:=⟨by kernel_rfl⟩
instance q1aa:FnI Tryz.prog 189:=⟨by kernel_rfl⟩
instance q18a:FnI Tryz.prog 190:=⟨by kernel_rfl⟩
instance q16r:FnI Tryz.prog 191:=⟨by kernel_rfl⟩
instance q17o:FnI Tryz.prog 192:=⟨by kernel_rfl⟩
instance q1a9:FnI Tryz.prog 193:=⟨by kernel_rfl⟩
instance q16m:FnI Tryz.prog 194:=⟨by kernel_rfl⟩
instance q16h:FnI Tryz.prog 195:=⟨by kernel_rfl⟩
instance q1a3:FnI Tryz.prog 196:=⟨by kernel_rfl⟩
instance q18e:FnI Tryz.prog 197:=⟨by kernel_rfl⟩
instance q16t:FnI Tryz.prog 198:=⟨by kernel_rfl⟩
instance q18n:FnI Tryz.prog 199:=⟨by kernel_rfl⟩
instance q19f:FnI Tryz.prog 200:=⟨by kernel_rfl⟩
instance q188:FnI Tryz.prog 201:=⟨by kernel_rfl⟩
instance q193:FnI Tryz.prog 202:=⟨by kernel_rfl⟩
instance q174:FnI Tryz.prog 203:=⟨by kernel_rfl⟩
instance q17h:FnI Tryz.prog 204:=⟨by kernel_rfl⟩
instance q19s:FnI Tryz.prog 205:=⟨by kernel_rfl⟩
instance q19c:FnI Tryz.prog 206:=⟨by kernel_rfl⟩
instance q17d:FnI Tryz.prog 218:=⟨by kernel_rfl⟩
instance q17m:FnI Tryz.prog 219:=⟨by kernel_rfl⟩
instance q19e:FnI Tryz.prog 220:=⟨by kernel_rfl⟩
instance q16n:FnI Tryz.prog 223:=⟨by kernel_rfl⟩
instance q178:FnI Tryz.prog 224:=⟨by kernel_rfl⟩
instance q186:FnI Tryz.prog 225:=⟨by kernel_rfl⟩
instance q19h:FnI Tryz.prog 226:=⟨by kernel_rfl⟩
instance q16a:FnI Tryz.prog 227:=⟨by kernel_rfl⟩
instance q17v:FnI Tryz.prog 228:=⟨by kernel_rfl⟩
instance q19l:FnI Tryz.prog 229:=⟨by kernel_rfl⟩
instance q197:FnI Tryz.prog 230:=⟨by kernel_rfl⟩
instance q1a8:FnI Tryz.prog 231:=⟨by kernel_rfl⟩
instance q175:FnI Tryz.prog 232:=⟨by kernel_rfl⟩
instance q185:FnI Tryz.prog 233:=⟨by kernel_rfl⟩
instance q19z:FnI Tryz.prog 234:=⟨by kernel_rfl⟩
instance q17r:FnI Tryz.prog 235:=⟨by kernel_rfl⟩
instance q19a:FnI Tryz.prog 236:=⟨by kernel_rfl⟩
instance q19n:FnI Tryz.prog 237:=⟨by kernel_rfl⟩
instance q1a1:FnI Tryz.prog 238:=⟨by kernel_rfl⟩
instance q16f:FnI Tryz.prog 239:=⟨by kernel_rfl⟩
instance q16z:FnI Tryz.prog 245:=⟨by kernel_rfl⟩
instance q18r:FnI Tryz.prog 246:=⟨by kernel_rfl⟩
instance q1ad:FnI Tryz.prog 247:=⟨by kernel_rfl⟩
instance q1a4:FnI Tryz.prog 248:=⟨by kernel_rfl⟩
instance q18t:FnI Tryz.prog 249:=⟨by kernel_rfl⟩
instance q164:FnI Tryz.prog 250:=⟨by kernel_rfl⟩
instance q19q:FnI Tryz.prog 251:=⟨by kernel_rfl⟩
instance q190:FnI Tryz.prog 252:=⟨by kernel_rfl⟩
instance q19o:FnI Tryz.prog 253:=⟨by kernel_rfl⟩
instance q18k:FnI Tryz.prog 254:=⟨by kernel_rfl⟩
instance q18o:FnI Tryz.prog 258:=⟨by kernel_rfl⟩
instance q16i:FnI Tryz.prog 259:=⟨by kernel_rfl⟩
instance q191:FnI Tryz.prog 260:=⟨by kernel_rfl⟩
instance q19w:FnI Tryz.prog 261:=⟨by kernel_rfl⟩
instance q170:FnI Tryz.prog 262:=⟨by kernel_rfl⟩
instance q1a2:FnI Tryz.prog 263:=⟨by kernel_rfl⟩
instance q183:FnI Tryz.prog 264:=⟨by kernel_rfl⟩
instance q16p:FnI Tryz.prog 265:=⟨by kernel_rfl⟩
instance q165:FnI Tryz.prog 266:=⟨by kernel_rfl⟩
instance q18m:FnI Tryz.prog 268:=⟨by kernel_rfl⟩
instance q17a:FnI Tryz.prog 271:=⟨by kernel_rfl⟩
instance q17z:FnI Tryz.prog 273:=⟨by kernel_rfl⟩
theorem mixed:Tryz.prog.follows .mixedOrders=true:=by kernel_rfl
abbrev lets:ByteArray:=⟨#[97,98,99,100,101,102,103,104,105,106,107,108,109,110,111,112,113,114,115,116,117,118,119,120,121,122,48,49,50,51,52,53,54,55,56,57]⟩
theorem qez (s:ByteArray) (c:Int) (H:qf):AC Tryz.prog 245 [.str s,.int .u8 c] H (Ret (.int .i64 (Lib.indexByte s.data.toList c.toNat.toUInt8)) H):=by
 refine AC.body (N:=8) [.tmp 4] Tryz.func245 rfl rfl rfl (Nat.le_of_ble_eq_true rfl) fun B hB=>?_
 refine Z5 ?_
 refine Z7 ?_
 refine Z8 ?_
 refine ao1 (by decide) (qg2 Tryz.func257 Y1z Y1z Y1z Y1z rfl rfl) ?_
 exact Zc
theorem q76 (s:ByteArray) (c:Int) (H:qf):AC Tryz.prog 219 [.str s,.int .u8 c] H (Ret (.int .i64 (Lib.indexByte s.data.toList c.toNat.toUInt8)) H):=by
 refine AC.body (N:=8) [.tmp 4] Tryz.func219 rfl rfl rfl (Nat.le_of_ble_eq_true rfl) fun B hB=>?_
 refine Z5 ?_
 refine Z7 ?_
 refine Z8 ?_
 refine qu (qez _ _ _) rfl (by decide) ?_
 exact Zc
theorem qfp (c:Int) (H:qf):AC Tryz.prog 220 [.int .i32 c] H (Ret (.bool (Utf8.valid c)) H):=by
 refine AC.body (N:=17) [.tmp 2] Tryz.func220 rfl rfl rfl (Nat.le_of_ble_eq_true rfl) fun B hB=>?_
 refine Zf ?_
 refine qq 3 (.bool (decide (0≤c)&&decide (c<55296))) ?_ ?_
 ·refine Z8 ?_
  refine Zi ?_
  refine qb rfl rfl (fun hg2=>?_) (fun hg2=>?_)
  ·refine Zl ?_
   refine Zn ?_
   exact Zo
  ·refine Zt ?_
   exact Zo
 refine Z1 ?_
 refine qa rfl (fun hc=>?_) (fun hc=>?_)
 ·refine Zf ?_
  rw [show Utf8.valid c=true by simp [Utf8.valid];simp at hc;omega]
  exact Zb
 ·refine Z1 ?_
  refine qq 10 (.bool (decide (57343<c)&&decide (c≤1114111))) ?_ ?_
  ·refine Zw ?_
   refine qb rfl rfl (fun hg2=>?_) (fun hg2=>?_)
   ·refine Zj ?_
    refine Zy ?_
    exact Zo
   ·refine Zt ?_
    exact Zo
  refine Z1 ?_
  refine qa rfl (fun hc=>?_) (fun hc=>?_)
  ·refine Zf ?_
   rw [show Utf8.valid c=true by simp [Utf8.valid];simp at hc;omega]
   exact Zb
  ·refine Zf ?_
   rw [show Utf8.valid c=false by simp [Utf8.valid];simp at *;omega]
   exact Zb
theorem qo8:∀ i:Nat,i<36→(lets.get! i).toNat<128:=by decide +kernel
theorem qy5:∀ i:Nat,i<36→lets[i]?=some (lets.get! i):=by decide +kernel
theorem qf7:lets.size=36:=by decide +kernel
def ixl (c:Int):Int:=if c<128 then Lib.indexByte lets.data.toList c.toNat.toUInt8 else -1
theorem q13d {c:Int} (h:0≤c):decide (0≤ixl c)=qfs c:=by
 unfold ixl
 by_cases h1:c<128
 ·rw [if_pos h1]
  obtain ⟨n,rfl⟩:∃ n:Nat,c=n:=⟨c.toNat,by omega⟩
  have:∀ n:Nat,n<128→decide (0≤Lib.indexByte lets.data.toList ((n:Int).toNat.toUInt8))=qfs n:=by decide +kernel
  exact this n (by omega)
 ·rw [if_neg h1]
  simp [qfs]
  omega
theorem qfv {l:List UInt8} {c:UInt8} (h:c∉l):Lib.indexByte l c = -1:=by
 induction l with
 | nil=>rfl
 | cons b l ih =>
  simp only [List.mem_cons,not_or] at h
  unfold Lib.indexByte
  rw [ih h.2,if_neg (by simpa using fun e=>h.1 e.symm)]
  rfl
theorem qs7 {b:UInt8} (h:128≤b.toNat) (l h':Nat):Lib.indexByte (lets.extract l h').data.toList b = -1:=by
 refine qfv fun hm=>?_
 have hm2:b∈lets.data.toList:=by
  rw [ByteArray.data_extract] at hm
  rw [Array.toList_extract,List.extract_eq_take_drop] at hm
  exact List.mem_of_mem_drop (List.mem_of_mem_take hm)
 have:∀ x∈lets.data.toList,x.toNat<128:=by decide +kernel
 have:=this b hm2
 omega
set_option maxHeartbeats 0 in
theorem qc2 (c:Int) (hc0:0≤c) (hc1:c≤1114111) (H:qf):AC Tryz.prog 187 [.str lets,.int .i32 c] H (Ret (.int .i64 (ixl c)) H):=by
 refine AC.body (N:=187) [.tmp 4] Tryz.func187 rfl rfl rfl (Nat.le_of_ble_eq_true rfl) fun B hB=>?_
 refine Zz ?_
 refine qq 160 (.bool (decide (c<128))) ?_ ?_
 ·refine Z8 ?_
  refine Zi ?_
  refine qb rfl rfl (fun hg2=>?_) (fun hg2=>?_)
  ·refine Zl ?_
   refine Zn ?_
   exact Z10
  ·refine Zt ?_
   exact Zo
 refine Z1 ?_
 refine qa rfl (fun hc=>?_) (fun hc=>?_)
 ·simp at hc
  refine Z7 ?_
  refine Z8 ?_
  refine ao1 (by decide) (qn rfl (show IntKind.u8.wrap c=c by simp [IntKind.wrap,IntKind.signed,IntKind.bits];omega)) ?_
  refine qu (q76 _ _ _) rfl (by decide) ?_
  refine Z4 ?_
  try dsimp only
  refine Z1 ?_
  rw [show Lib.indexByte lets.data.toList c.toNat.toUInt8=ixl c by rw [ixl,if_pos hc]]
  exact Zb
 have hc128:128≤c:=by simp at hc;omega
 rw [show ixl c = -1 by rw [ixl,if_neg (by omega)]]
 refine Z11 ?_
 refine Z13 ?_
 refine qa rfl (fun hc=>?_) (fun hc=>?_)
 ·refine qaj ?_
  refine qf2 (s:=lets) rfl (by decide) (by decide) (by decide) (by decide) (by decide) (by decide) (by decide) (fun _=>True) (fun _=>[]) trivial Sub.nil ?_ ?_
  ·intro pos r B' hp _ hB'
   rw [qf7] at hp
   have hlow:=qo8 pos hp
   rw [qgt lets pos hlow]
   refine Z2 ?_
   refine Z14 ?_
   refine Z14 ?_
   refine Z15 ?_
   try dsimp only
   refine Z17 ?_
   refine qa rfl (fun hc=>?_) (fun hc=>?_)
   ·simp at hc;omega
   ·refine Z1 ?_
    exact ⟨trivial,Y8,rfl⟩
  ·intro pos r hp _
   exact Z18
 ·refine Z11 ?_
  refine qu (qfp _ _) rfl (by decide) ?_
  refine Z19 ?_
  refine Ze ?_
  refine qa rfl (fun hc=>?_) (fun hc=>?_)
  ·exact Z18
  ·have hv:Utf8.valid c=true:=by simpa using hc
   obtain ⟨h2,h4,hb⟩:=qmw hc128 hv
   obtain ⟨m,hm⟩:∃ m,(Utf8.encode c).data.toList.length=m+1:=⟨_,(Nat.succ_pred (by omega:(Utf8.encode c).data.toList.length≠0)).symm⟩
   have hsz:(Utf8.encode c).size=m+1:=by show (Utf8.encode c).data.size=m+1;rw [← Array.length_toList,hm]
   obtain ⟨bl,hbl,hbm⟩:∃ bl,(Utf8.encode c)[m]?=some bl∧bl∈(Utf8.encode c).data.toList:=by
    have hlt:m<(Utf8.encode c).size:=by omega
    refine ⟨(Utf8.encode c)[m],getElem?_pos (Utf8.encode c) m hlt,?_⟩
    rw [ByteArray.getElem_eq_getElem_data]
    exact Array.getElem_mem_toList _
   have hb128:=hb bl hbm
   have hlow:=qo8 m (by omega)
   have hlm:=qy5 m (by omega)
   refine Z11 ?_
   refine ao1 (by decide) (qsf rfl) ?_
   refine Z1a ?_
   refine qe ?_
   refine Z7 ?_
   refine Z1b ?_
   refine ao1 (by decide) (q30 (r:=(m:Int)) rfl rfl (by rw [hsz,show ((m+1:Nat):Int)-1=(m:Int) by omega];exact qc (by omega) (by omega))) ?_
   refine Z4 ?_
   refine Z1c ?_
   refine Z1e ?_
   refine qm (G:=Unit) (fun _=>True) (fun _=>[(0,.str lets),(7,.str (Utf8.encode c)),(8,.int .i64 (m:Int)),(9,.int .i64 (m:Int))]) (fun _=>H++[]) (fun _=>0) () trivial Y8 (Fit.refl _ _) ?_
   rintro _ _
   refine Z11 ?_
   refine Z6 ?_
   refine Z1b ?_
   refine Z1f ?_
   refine qa rfl (fun hc=>?_) (fun hc=>?_)
   ·refine Z1 ?_
    refine Z1g ?_
    refine Z1h ?_
    refine Z1i ?_
    refine aq0 2 rfl Y1q (by decide) (fun _=>q75 rfl rfl (by omega) hlm) ?_
    refine aq0 3 rfl Y1q (by decide) (fun _=>qi (v:=.str _) rfl) ?_
    refine Z1j ?_
    refine aq0 5 rfl Y1q (by decide) (fun _=>q75 rfl rfl (by omega) hbl) ?_
    refine aq0 6 rfl Y1q (by decide) (fun _=>qyz rfl rfl) ?_
    refine Z1k ?_
    refine Z1 ?_
    refine qa rfl (fun hc=>?_) (fun hc=>?_)
    ·refine Z1 ?_
     refine Z1g ?_
     refine Z1h ?_
     refine Z1i ?_
     refine aq0 2 rfl Y1q (by decide) (fun _=>q1x rfl rfl (qc (by omega) (by omega))) ?_
     refine aq0 3 rfl Y1q (by decide) (fun _=>qq1 (l:=m+1) rfl (.some rfl rfl) .none (by rw [qf7];omega) (Nat.le_refl _)) ?_
     refine aq0 4 rfl Y1q (by decide) (fun _=>qi (v:=.str _) rfl) ?_
     refine Z1l ?_
     refine aq0 6 rfl Y1q (by decide) (fun _=>q75 rfl rfl (by omega) hbl) ?_
     refine q9b 7 rfl Y1q (by decide) (fun _=>V2.call (q76 (lets.extract (m+1) lets.size) (bl.toNat:Int) _) rfl) ?_
     refine Z1m ?_
     refine Z1k ?_
     rw [show ((bl.toNat:Int).toNat.toUInt8)=bl by simp,qs7 hb128]
     refine Z11 ?_
     refine Z1f ?_
     refine qa rfl (fun hc=>?_) (fun hc=>?_)
     ·exact Z18
     ·simp at hc
    ·simp at hc
     omega
   ·simp [qf7] at hc
    omega
theorem q9h (c:Int) (h0:0≤c) (h1:c≤1114111) (H:qf):AC Tryz.prog 146 [.str lets,.int .i32 c] H (Ret (.bool (qfs c)) H):=by
 refine AC.body (N:=9) [.tmp 4] Tryz.func146 rfl rfl rfl (Nat.le_of_ble_eq_true rfl) fun B hB=>?_
 refine Z1o ?_
 refine Z7 ?_
 refine Z8 ?_
 refine qu (qc2 _ Y1y Y1y _) rfl (by decide) ?_
 refine Z1p ?_
 refine Ze ?_
 rw [← q13d h0]
 exact Zb
theorem qm4 (c:Int) (h0:0≤c) (h1:c≤1114111) (H:qf):AC Tryz.prog 145 [.int .i32 c] H (Ret (.bool (!qfs c)) H):=by
 refine AC.body (N:=6) [.tmp 2] Tryz.func145 rfl rfl rfl (Nat.le_of_ble_eq_true rfl) fun B hB=>?_
 refine Z1o ?_
 refine Z11 ?_
 refine qu (q9h _ Y1y Y1y _) rfl (by decide) ?_
 refine Z19 ?_
 exact Z1q
theorem qub {s:ByteArray} {k:Nat} (h:k<s.size):∃ b:UInt8,s[k]?=some b∧s.data.toList[k]?=some b∧s.get! k=b:=by
 refine ⟨s[k],getElem?_pos s k h,?_,?_⟩
 ·rw [Array.getElem?_toList];exact getElem?_pos s.data k h
 ·show s.get! k=_
  simp [ByteArray.get!,getElem!_pos,h]
  rfl
theorem q13c {s:ByteArray} {k:Nat} {b:UInt8} (h:s.get! k=b):qfs ((Utf8.decode s k).1:Int)=qj3 b∧(Utf8.decode s k).1≤1114111∧(qj3 b=true→(Utf8.decode s k).2=1):=by
 by_cases hb:b.toNat<128
 ·have:=qgt s k (by rw [h];exact hb)
  rw [this,h]
  exact ⟨rfl,by simp only;omega,fun _=>rfl⟩
 ·have:=qms s k (by rw [h];omega)
  have hn:qj3 b=false:=by simp [qj3,qfs];omega
  refine ⟨?_,this.2,fun h=>by rw [hn] at h;cases h⟩
  rw [hn]
  simp [qfs]
  omega
theorem qbn (s:ByteArray) (H:qf):AC Tryz.prog 218 [.str s,.fn (.func 145) [] [],.bool true] H (Ret (.int .i64 (ixf (fun b=>!qj3 b) s.data.toList)) H):=by
 refine AC.body (N:=21) [.tmp 6] Tryz.func218 rfl rfl rfl (Nat.le_of_ble_eq_true rfl) fun B hB=>?_
 refine Z5 ?_
 refine q5u ?_
 refine qaj ?_
 refine qf2 (s:=s) rfl (by decide) (by decide) (by decide) (by decide) (by decide) (by decide) (by decide) (fun k=>k≤s.size∧∀ b∈s.data.toList.take k,(!qj3 b)=false) (fun _=>[(1,.fn (.func 145) [] []),(2,.bool true)]) ⟨Nat.zero_le _,by simp⟩ Y8 ?_ ?_
 ·rintro k r B' hp ⟨hk,hno⟩ hB'
  obtain ⟨b,h1,h2,h3⟩:=qub hp
  obtain ⟨d1,d2,d3⟩:=q13c h3
  generalize Utf8.decode s k=q at d1 d2 d3
  refine Z2 ?_
  refine Z14 ?_
  refine Z14 ?_
  refine Z15 ?_
  refine Z1s ?_
  refine Z8 ?_
  refine qie (qm4 (q.1:Int) (by omega) (by omega) _) rfl rfl (by decide) ?_
  refine Zh ?_
  refine ao1 (by decide) (q141 rfl rfl) ?_
  refine qe ?_
  rw [d1]
  refine Z1 ?_
  refine qa rfl (fun hc=>?_) (fun hc=>?_)
  ·have hb:(!qj3 b)=true:=by simpa using hc
   refine Z1t ?_
   rw [qbi (p:=fun b=>!qj3 b) h2 hb hno]
   exact Zb
  ·have hb:(!qj3 b)=false:=by simpa using hc
   have hq:=d3 Y1r
   refine Z1 ?_
   rw [hq]
   refine ⟨⟨by omega,?_⟩,Y8,rfl⟩
   rw [ql h2]
   intro y hy
   rcases List.mem_append.1 hy with h | h
   ·exact hno y h
   ·simp only [List.mem_singleton] at h
    subst h
    exact hb
 ·rintro k r hp ⟨hk,hno⟩
  have:k=s.size:=by omega
  subst this
  rw [← q6p,List.take_length] at hno
  rw [qba (p:=fun b=>!qj3 b) hno]
  exact Z18
theorem qc4 (s:ByteArray) (H:qf):AC Tryz.prog 186 [.str s,.fn (.func 145) [] []] H (Ret (.int .i64 (ixf (fun b=>!qj3 b) s.data.toList)) H):=by
 refine AC.body (N:=8) [.tmp 4] Tryz.func186 rfl rfl rfl (Nat.le_of_ble_eq_true rfl) fun B hB=>?_
 refine Z5 ?_
 refine Z7 ?_
 refine Z1r ?_
 refine qu (qbn _ _) rfl (by decide) ?_
 exact Zc
theorem q9m (s:ByteArray) (H:qf):AC Tryz.prog 144 [.str s,.fn (.func 145) [] []] H (Ret (.bool (s.data.toList.any fun b=>!qj3 b)) H):=by
 refine AC.body (N:=9) [.tmp 4] Tryz.func144 rfl rfl rfl (Nat.le_of_ble_eq_true rfl) fun B hB=>?_
 refine Z1o ?_
 refine Z7 ?_
 refine Z1r ?_
 refine qu (qc4 _ _) rfl (by decide) ?_
 refine Z1p ?_
 refine Ze ?_
 rw [← q73]
 exact Zb
theorem qkw (s:ByteArray) (H:qf):AC Tryz.prog 106 [.str s] H (Ret (.bool (q9g s)) H):=by
 rw [show q9g s=(decide ((s.size:Int)≤16)&&!(s.data.toList.any fun b=>!qj3 b)) by simp [q9g,List.all_eq_not_any_not]]
 refine AC.body (N:=11) [.tmp 2] Tryz.func106 rfl rfl rfl (Nat.le_of_ble_eq_true rfl) fun B hB=>?_
 refine Zf ?_
 refine qq 2 (.bool (decide ((s.size:Int)≤16)&&!(s.data.toList.any fun b=>!qj3 b))) ?_ ?_
 ·refine Z6 ?_
  refine Z1b ?_
  refine Zi ?_
  refine qb rfl rfl (fun hg3=>?_) (fun hg3=>?_)
  ·refine Z1u ?_
   refine q6d rfl rfl (by decide) (V2.call (q9m _ _) rfl) ?_
   refine Z1v ?_
   refine Zn ?_
   exact Z1w
  ·refine Z1z ?_
   exact Zo
 exact Z20
theorem qtv (s:ByteArray) (H:qf) (hs:s.size≤9223372036854775807):AC Tryz.prog 87 [.str s] H (Ret (.bool (q9g s)) H):=by
 refine AC.body (N:=37) [.tmp 2] Tryz.func87 rfl rfl rfl (Nat.le_of_ble_eq_true rfl) fun B hB=>?_
 refine Z1o ?_
 refine Z1e ?_
 refine qm (G:=Nat) (fun k=>k≤s.size∧(s.data.toList.take k).all qj3=true) (fun k=>[(0,.str s),(3,.int .i64 (k:Int))]) (fun _=>H++[]) (fun k=>s.size-k) 0 ⟨Nat.zero_le _,by simp⟩ Y8 (Fit.refl _ _) ?_
 rintro k ⟨hk,hno⟩
 refine Z11 ?_
 refine Z6 ?_
 refine Z1b ?_
 refine Z1f ?_
 refine qa rfl (fun hc=>?_) (fun hc=>?_)
 ·have hlt:k<s.size:=by simp at hc;omega
  obtain ⟨b,h1,h2,h3⟩:=qub hlt
  have hbm:=List.mem_of_getElem? h2
  refine Z1 ?_
  refine qq 33 (.bool (!qj3 b)) ?_ ?_
  ·refine Z6 ?_
   refine Z8 ?_
   refine ao1 (by decide) (q75 rfl rfl (by omega) h1) ?_
   refine Z21 ?_
   refine qb rfl rfl (fun hg4=>?_) (fun hg4=>?_)
   ·refine Z1u ?_
    refine Zj ?_
    refine Z22 ?_
    refine Zx ?_
    refine Zm ?_
    refine Z23 ?_
    refine qb rfl rfl (fun hg11=>?_) (fun hg11=>?_)
    ·refine Z1u ?_
     refine Zj ?_
     refine Z22 ?_
     refine Z24 ?_
     refine Z25 ?_
     refine qb rfl rfl (fun hg16=>?_) (fun hg16=>?_)
     ·refine Z1u ?_
      refine Zj ?_
      refine Z22 ?_
      refine Zx ?_
      refine Z26 ?_
      refine Z27 ?_
      exact Z28
     ·refine Z29 ?_
      refine Z2a ?_
      refine Z27 ?_
      exact Z28
    ·refine Z29 ?_
     refine Z2d ?_
     refine Z2c ?_
     refine Zs ?_
     exact Z28
   ·refine Z2e ?_
    refine Z23 ?_
    refine Z1u ?_
    refine Zj ?_
    refine Z22 ?_
    refine Z24 ?_
    refine Z25 ?_
    refine qb rfl rfl (fun hg16=>?_) (fun hg16=>?_)
    ·refine Z1u ?_
     refine Zj ?_
     refine Z22 ?_
     refine Zx ?_
     refine Z26 ?_
     refine Z27 ?_
     exact Z28
    ·refine Z29 ?_
     refine Z2a ?_
     refine Z27 ?_
     exact Z28
  refine Z1 ?_
  refine qa rfl (fun hc=>?_) (fun hc=>?_)
  ·refine Zf ?_
   rw [show q9g s=false by rw [q9g,qxx hbm Y1t,Bool.and_false]]
   exact Zb
  ·refine Z2h ?_
   exact ⟨k+1,by omega,⟨by omega,qxj h2 hno Y1t⟩,Y8,.refl _ _⟩
 ·have:k=s.size:=by simp at hc;omega
  subst this
  rw [← q6p,List.take_length] at hno
  rw [show q9g s=decide ((s.size:Int)≤16) by rw [q9g,hno,Bool.and_true]]
  refine Z7 ?_
  refine Z1b ?_
  refine Zg ?_
  exact Z1q
theorem qtd (t:Int) (H:qf):AC Tryz.prog 192 [.int .i64 t] H (Ret (.int .i64 (qzy t)) H):=by
 refine AC.body (N:=6) [.tmp 2] Tryz.func192 rfl rfl rfl (Nat.le_of_ble_eq_true rfl) fun B hB=>?_
 refine Z5 ?_
 refine Z11 ?_
 refine Z2i ?_
 refine ao1 (by decide) (qwq rfl rfl rfl) ?_
 exact Zc
theorem qsg (t l:Int) (H:qf):AC Tryz.prog 157 [.int .i64 t,.int .i64 l] H (Ret (.int .i64 (plus t l)) H):=by
 have h1:=qu7 t
 have h2:=qu7 l
 refine AC.body (N:=14) [.tmp 4] Tryz.func157 rfl rfl rfl (Nat.le_of_ble_eq_true rfl) fun B hB=>?_
 refine Z5 ?_
 refine Z11 ?_
 refine Z2j ?_
 refine Z8 ?_
 refine Z2j ?_
 refine Z8 ?_
 refine Z2j ?_
 refine ao1 (by decide) (q30 rfl rfl (qc (by omega) (by omega))) ?_
 refine Z2i ?_
 refine Z2f ?_
 exact Zc
theorem qh7 (t:Int) (H:qf):AC Tryz.prog 66 [.int .i64 t] H (Ret (.bool (decide (0≤t)&&decide (t≤4611686018427387904))) H):=by
 refine AC.body (N:=9) [.tmp 2] Tryz.func66 rfl rfl rfl (Nat.le_of_ble_eq_true rfl) fun B hB=>?_
 refine Zf ?_
 refine qq 2 (.bool (decide (0≤t)&&decide (t≤4611686018427387904))) ?_ ?_
 ·refine Z8 ?_
  refine Z21 ?_
  refine qb rfl rfl (fun hg2=>?_) (fun hg2=>?_)
  ·refine Zj ?_
   refine Zy ?_
   exact Zo
  ·refine Zt ?_
   exact Zo
 exact Z20
def qg9 (a b:Int):Int:=if a<b then -1 else if b<a then 1 else 0
theorem qvd (t:Int) (H:qf):AC Tryz.prog 188 [.int .i64 t] H (Ret (.bool false) H):=by
 refine AC.body (N:=6) [.tmp 2] Tryz.func188 rfl rfl rfl (Nat.le_of_ble_eq_true rfl) fun B hB=>?_
 refine Z1o ?_
 refine Z2k ?_
 refine Z2l ?_
 refine Ze ?_
 rw [show (t != t)=false by simp]
 exact Zb
theorem qm7 (a b:Int) (H:qf):AC Tryz.prog 151 [.int .i64 a,.int .i64 b] H (Ret (.int .i64 (qg9 a b)) H):=by
 refine AC.body (N:=20) [.tmp 4] Tryz.func151 rfl rfl rfl (Nat.le_of_ble_eq_true rfl) fun B hB=>?_
 refine Z5 ?_
 refine Z11 ?_
 refine Z2m ?_
 refine Z1n ?_
 refine Z11 ?_
 refine Z2m ?_
 refine Z1n ?_
 refine Z2n ?_
 refine Z9 ?_
 refine qa rfl (fun hc=>?_) (fun hc=>?_)
 ·cases hc
 refine Z2n ?_
 refine Z9 ?_
 refine qa rfl (fun hc=>?_) (fun hc=>?_)
 ·cases hc
 refine Z2o ?_
 refine qa rfl (fun hc=>?_) (fun hc=>?_)
 ·refine Zz ?_
  rw [show qg9 a b = -1 by simp at hc;simp [qg9,hc]]
  exact Zb
 ·refine Z2k ?_
  refine Z2q ?_
  refine qa rfl (fun hc=>?_) (fun hc=>?_)
  ·refine Zz ?_
   rw [show qg9 a b=1 by simp at *;unfold qg9;rw [if_neg (by omega),if_pos (by omega)]]
   exact Zb
  ·refine Zz ?_
   rw [show qg9 a b=0 by simp at *;unfold qg9;rw [if_neg (by omega),if_neg (by omega)]]
   exact Zb
abbrev eI (i:Int):List AV:=[.int .i64 i]
theorem qe1 (n a b:Int) (H:qf):AC Tryz.prog 117 [.int .i64 n,.int .i64 a,.int .i64 b] H (Ret (.bool (decide (a≤n)&&decide (n≤b))) H):=by
 refine AC.body (N:=15) [.tmp 6] Tryz.func117 rfl rfl rfl (Nat.le_of_ble_eq_true rfl) fun B hB=>?_
 refine Zf ?_
 refine qq 6 (.bool (decide (a≤n)&&decide (n≤b))) ?_ ?_
 ·refine Z2r ?_
  refine Z21 ?_
  refine qb rfl rfl (fun hg3=>?_) (fun hg3=>?_)
  ·refine Z2s ?_
   refine Zy ?_
   exact Zo
  ·refine Z1z ?_
   exact Zo
 exact Z20
theorem qhx (n a b:Int) (H:qf):AC Tryz.prog 118 [.int .i64 n,.int .i64 a,.int .i64 b] H (Ret (.bool (decide (a≤n)&&decide (n≤b))) H):=by
 refine AC.body (N:=15) [.tmp 6] Tryz.func118 rfl rfl rfl (Nat.le_of_ble_eq_true rfl) fun B hB=>?_
 refine Zf ?_
 refine qq 6 (.bool (decide (a≤n)&&decide (n≤b))) ?_ ?_
 ·refine Z2r ?_
  refine Z21 ?_
  refine qb rfl rfl (fun hg3=>?_) (fun hg3=>?_)
  ·refine Z2s ?_
   refine Zy ?_
   exact Zo
  ·refine Z1z ?_
   exact Zo
 exact Z20
theorem qbr (s:Spec) (H:qf):AC Tryz.prog 70 [.agg (q1i s)] H (Ret (.bool (q1c s)) H):=by
 refine AC.body (N:=49) [.tmp 2] Tryz.func70 rfl rfl rfl (Nat.le_of_ble_eq_true rfl) fun B hB=>?_
 refine Z2u ?_
 refine Z2x ?_
 refine qq 3 (.bool (qi4 s)) ?_ ?_
 ·refine Z30 ?_
  refine qu (qe1 _ _ _ _) rfl (by decide) ?_
  refine Zh ?_
  refine qb rfl rfl (fun hg3=>?_) (fun hg3=>?_)
  ·refine Z32 ?_
   refine Z33 ?_
   refine Z34 ?_
   refine qb rfl rfl (fun hg8=>?_) (fun hg8=>?_)
   ·refine Z32 ?_
    refine Z33 ?_
    refine Zn ?_
    exact Z35
   ·refine Z1z ?_
    exact Z36
  ·refine Z38 ?_
   exact Z36
 refine Z1 ?_
 refine qq 4 (.bool (qpz s)) ?_ ?_
 ·refine Z2y ?_
  refine Z39 ?_
  refine Zh ?_
  refine qb rfl rfl (fun hg2=>?_) (fun hg2=>?_)
  ·refine Z3d ?_
   refine Z3c ?_
   refine Zn ?_
   exact Z3e
  ·refine Z32 ?_
   refine Z3f ?_
   refine Z3g ?_
   refine qb rfl rfl (fun hg7=>?_) (fun hg7=>?_)
   ·refine Z3c ?_
    refine Zn ?_
    exact Z3e
   ·refine Z32 ?_
    refine Z3f ?_
    refine Z3h ?_
    exact Z3i
 refine Z1 ?_
 refine qq 2 (.bool (q1c s)) ?_ ?_
 ·refine Z3j ?_
  refine qb rfl rfl (fun hg1=>?_) (fun hg1=>?_)
  ·refine Z25 ?_
   refine Z34 ?_
   refine qb rfl rfl (fun hg4=>?_) (fun hg4=>?_)
   ·refine Z31 ?_
    refine q1j rfl rfl (by decide) (qh (v:=.str _) rfl (lk rfl rfl) rfl rfl rfl) ?_
    refine q6d rfl rfl (by decide) (V2.call (qkw _ _) rfl) ?_
    refine Z34 ?_
    refine qb rfl rfl (fun hg9=>?_) (fun hg9=>?_)
    ·refine Z32 ?_
     refine q6d rfl rfl (by decide) (V2.call (qhx _ _ _ _) rfl) ?_
     refine Z34 ?_
     refine qb rfl rfl (fun hg14=>?_) (fun hg14=>?_)
     ·refine Z32 ?_
      refine Z33 ?_
      refine Zn ?_
      exact Z3k
     ·refine Z1z ?_
      exact Z3l
    ·refine Z38 ?_
     exact Z3k
   ·refine Z37 ?_
    refine Z38 ?_
    exact Z3k
  ·refine Z1x ?_
   refine Zh ?_
   refine Z37 ?_
   refine Z38 ?_
   exact Z3k
 exact Z20
theorem qlx (s:Spec) (H:qf) (ht:s.tag.size≤9223372036854775807):AC Tryz.prog 79 [.agg (q1i s)] H (Ret (.bool (q1c s)) H):=by
 refine AC.body (N:=67) [.tmp 2] Tryz.func79 rfl rfl rfl (Nat.le_of_ble_eq_true rfl) fun B hB=>?_
 refine Z2u ?_
 refine Z2x ?_
 refine qq 30 (.bool (!qi4 s)) ?_ ?_
 ·refine Z30 ?_
  refine Zv ?_
  refine qb rfl rfl (fun hg3=>?_) (fun hg3=>?_)
  ·refine Z3m ?_
   refine Z3m ?_
   refine Z3n ?_
   exact Z35
  ·refine Z32 ?_
   refine Z3f ?_
   refine Z3g ?_
   refine qb rfl rfl (fun hg8=>?_) (fun hg8=>?_)
   ·refine Z3m ?_
    refine Z3d ?_
    refine Z3n ?_
    exact Z35
   ·refine Z32 ?_
    refine Zk ?_
    refine Z3g ?_
    refine qb rfl rfl (fun hg13=>?_) (fun hg13=>?_)
    ·refine Z3m ?_
     refine Z3n ?_
     exact Z35
    ·refine Z32 ?_
     refine Z3f ?_
     refine Z3g ?_
     refine qb rfl rfl (fun hg18=>?_) (fun hg18=>?_)
     ·refine Z3d ?_
      refine Z3n ?_
      exact Z35
     ·refine Z32 ?_
      refine Zk ?_
      refine Z3g ?_
      refine qb rfl rfl (fun hg23=>?_) (fun hg23=>?_)
      ·refine Z3n ?_
       exact Z35
      ·refine Z32 ?_
       refine Z3f ?_
       refine Zr ?_
       exact qe (Out.mk (by (refine congrArg AV.bool ?_;(simp only [qi4] at *;grind))) Yb)
 refine Z1 ?_
 refine qa rfl (fun hc=>?_) (fun hc=>?_)
 ·refine Zf ?_
  rw [show q1c s=false by simp at hc;simp [q1c,hc]]
  exact Zb
 ·have hm:qi4 s=true:=by simpa using hc
  have hm':=hm
  simp only [qi4,Bool.and_eq_true,decide_eq_true_eq] at hm'
  refine Z1 ?_
  refine qq 43 (.bool (!qpz s)) ?_ ?_
  ·refine Z30 ?_
   refine Z3o ?_
   refine qb rfl rfl (fun hg3=>?_) (fun hg3=>?_)
   ·refine Z32 ?_
    refine Z3q ?_
    refine qb rfl rfl (fun hg8=>?_) (fun hg8=>?_)
    ·refine Z31 ?_
     refine q1j rfl rfl (by decide) (qh (v:=.bool _) rfl (lk rfl rfl) rfl rfl rfl) ?_
     refine Z27 ?_
     exact Z3e
    ·refine Z1y ?_
     exact Z3i
   ·refine Z37 ?_
    refine Z1y ?_
    exact Z3i
  refine Z1 ?_
  refine qa rfl (fun hc=>?_) (fun hc=>?_)
  ·refine Zf ?_
   rw [show q1c s=false by simp at hc;simp [q1c,hc]]
   exact Zb
  ·have hs:qpz s=true:=by simpa using hc
   refine Z1 ?_
   refine qq 2 (.bool (q1c s)) ?_ ?_
   ·refine Z2y ?_
    refine Z3r ?_
    refine qu (qtv _ _ Y1y) rfl (by decide) ?_
    refine Zh ?_
    refine qb rfl rfl (fun hg3=>?_) (fun hg3=>?_)
    ·refine Z3s ?_
     refine Z34 ?_
     refine qb rfl rfl (fun hg8=>?_) (fun hg8=>?_)
     ·refine Z32 ?_
      refine Zx ?_
      refine Z34 ?_
      refine qb rfl rfl (fun hg13=>?_) (fun hg13=>?_)
      ·refine Z3s ?_
       refine Z34 ?_
       refine qb rfl rfl (fun hg18=>?_) (fun hg18=>?_)
       ·refine Z32 ?_
        refine Zy ?_
        exact Z3k
       ·refine Z1z ?_
        exact Z3l
      ·refine Z38 ?_
       exact Z3l
     ·refine Z37 ?_
      refine Z38 ?_
      exact Z3l
    ·refine Z37 ?_
     refine Z37 ?_
     refine Z38 ?_
     exact Z3k
   exact Z20
structure Asks3 where
 n:Int
 c:Int
 g:Int
def asks (s:Spec):Asks3:=if q1c s then ⟨s.nodes,s.nodes * s.cores,s.nodes * s.gpus⟩ else ⟨0,0,0⟩
theorem qea (s:Spec) (t:Int) (H:qf):AC Tryz.prog 116 [.agg (q1i s),.int .i64 t] H (Ret (.int .i64 (q21 s t)) H):=by
 refine AC.body (N:=14) [.tmp 4] Tryz.func116 rfl rfl rfl (Nat.le_of_ble_eq_true rfl) fun B hB=>?_
 refine Z2u ?_
 refine Z3t ?_
 refine Z3v ?_
 refine Z3w ?_
 refine Z3x ?_
 refine qa rfl (fun hc=>?_) (fun hc=>?_)
 ·refine Z11 ?_
  refine Z3y ?_
  refine Za ?_
  rw [show q21 s t=plus t 0 by simp at hc;simp [q21,hc]]
  exact Zb
 ·refine Z11 ?_
  refine Z30 ?_
  refine Z3y ?_
  refine Z40 ?_
  refine Z1 ?_
  rw [show q21 s t=plus t s.long by simp at hc;simp [q21,hc]]
  exact Zb
end Go.Av
namespace Go.Av
def qlj:AV→Option Value
 | .int k n=>some (.int k n)
 | .bool b=>some (.bool b)
 | .str s=>some (.string s)
 | _=>none
theorem VR.flat_eq {O:Nat→Prop} {w:World} {S:List Slot} {v:AV} {u u':Value} (h:VR O w S v u) (hf:qlj v=some u'):u=u':=by
 cases h<;>simp [qlj] at hf<;>exact hf
theorem VR.agg_flat {O:Nat→Prop} {w:World} {S:List Slot} {cs:List AV} {us:List Value} {u:Value} (h:VR O w S (.agg cs) u) (hf:cs.map qlj=us.map some):u = .agg us.toArray:=by
 cases h with
 | @agg _ _ vs hn hl h =>
  congr 1
  have hlen:cs.length=us.length:=by simpa using congrArg List.length hf
  apply Array.ext
  ·simp;omega
  ·intro j h1 h2
   have hj:j<cs.length:=by omega
   have hju:j<us.length:=by omega
   have e:qlj cs[j]=some us[j]:=by
    have:=congrArg (·[j]?) hf
    simpa [hj,hju] using this
   have:=(h j cs[j] vs[j] (List.getElem?_eq_getElem hj) (Array.getElem?_eq_getElem h1)).flat_eq e
   simpa using this
section
variable {P : Program} {N : Nat} {env : Env} {H : qf} {ty : TypeId}
theorem q11q {t t':TypeId} {x y:Operand} {cs ds:List AV} {us vs:List Value} {b:Bool} (hx:aev env x = .agg cs) (hy:aev env y = .agg ds) (hu:cs.map qlj=us.map some) (hv:ds.map qlj=vs.map some)
  (hm:P.eqGuardType P.depth t=false) (hb:∀ w,(Op.equalIn 10000 t (.agg us.toArray) (.agg vs.toArray)).run P w = .ok b w):V1 P N (.binOp .eql t x y t') ty env H (.bool b):=by
 intro S a w hc
 have h1:=hc.ev x
 have h2:=hc.ev y
 rw [hx] at h1
 rw [hy] at h2
 have e1:=h1.agg_flat hu
 have e2:=h2.agg_flat hv
 refine ⟨.bool b,fun _ _ _ _=>?_,.bool⟩
 simp only [execOp,e1,e2,Sem.run_bind,run_eqGuard_agg w .eql t x y _ _ hm,Result.andThen_ok,run_eql_struct,hb w,Sem.run_pure]
theorem quz {t t':TypeId} {x y:Operand} {cs ds:List AV} {us vs:List Value} {b:Bool} (hx:aev env x = .agg cs) (hy:aev env y = .agg ds) (hu:cs.map qlj=us.map some) (hv:ds.map qlj=vs.map some)
  (hm:P.eqGuardType P.depth t=false) (hb:∀ w,(Op.equalIn 10000 t (.agg us.toArray) (.agg vs.toArray)).run P w = .ok b w):V1 P N (.binOp .neq t x y t') ty env H (.bool (!b)):=by
 intro S a w hc
 have h1:=hc.ev x
 have h2:=hc.ev y
 rw [hx] at h1
 rw [hy] at h2
 have e1:=h1.agg_flat hu
 have e2:=h2.agg_flat hv
 refine ⟨.bool (!b),fun _ _ _ _=>?_,.bool⟩
 simp only [execOp,e1,e2,Sem.run_bind,run_eqGuard_agg w .neq t x y _ _ hm,Result.andThen_ok,run_neq_struct,hb w,Sem.run_pure]
end
end Go.Av
namespace Go.Av
open Go.Proofs
def qrz (s:Spec):List Value:=[.int .i64 s.nodes,.int .i64 s.cores,.int .i64 s.gpus,.string s.tag,.bool s.whole,.int .i64 s.long,.int .i64 s.prio]
theorem qrk (a b:Spec) (w:World):(Op.equalIn 10000 23 (.agg (qrz a).toArray) (.agg (qrz b).toArray)).run Tryz.prog w = .ok (decide (a=b)) w:=by
 have hS:Tryz.prog.underlying 23=some (.struct (Tryz.prog.fieldsOf 23)):=by kernel_rfl
 have hp:Tryz.prog.stoodInHeld 23=false:=by kernel_rfl
 rw [show (10000:Nat)=9999+1 from rfl,run_equalIn_agg w 9999 23 _ _ hS hp]
 have u3:=Tryz.underlying3
 have a3:=Tryz.isAgg3
 have z3:=Tryz.sizeOf3
 simp only [qrz,Program.fieldsOf,Tryz.underlying23]
 go_simp
 have ht:a.tag.toList=b.tag.toList↔a.tag=b.tag:=by have:=qo5 a.tag b.tag;rw [Bool.eq_iff_iff] at this;simpa using this
 simp only [ht]
 cases a;cases b
 simp only [Spec.mk.injEq]
 (repeat' split)<;>simp_all
end Go.Av
namespace Go.Av
end Go.Av
namespace Go.Av
open Go.Proofs
abbrev qx (j:Job):List AV:=[.int .i64 j.id,.int .i64 j.spec.nodes,.int .i64 j.spec.cores,.int .i64 j.spec.gpus,.str j.spec.tag,.bool j.spec.whole,.int .i64 j.spec.long,.int .i64 j.spec.prio,.pl (j.needs.map eI),.int .i64 j.state,.int .i64 j.came,.int .i64 j.frm,.int .i64 j.tto]
theorem qzt (l:List Int):∀ r∈l.map eI,r.length=1:=q5a (e:=eI) (n:=1) (fun _=>rfl) l
theorem qd3 (n:Nat) (l:List Int):∀ r∈l.map eI,AV.bels n r=true:=q5z (e:=eI) (fun _=>rfl) l
theorem q3m (l:List Int) (H:qf) (hn:l.length≤1000000):AC Tryz.prog 128 [.pl (l.map eI)] H (Ret (.pl (l.map eI)) H):=by
 refine AC.body (N:=8) [.tmp 2] Tryz.func128 rfl rfl rfl (Nat.le_of_ble_eq_true rfl) fun B hB=>?_
 refine Z46 ?_
 refine q69 rfl Y1k (qa6 rfl rfl _ _ _ _) ?_ (fun _ _ h=>h.elim)
 rintro _ _ ⟨nb,rfl,hnb,rfl⟩
 refine Z48 ?_
 refine qa rfl (fun hc=>?_) (fun hc=>?_)
 ·subst hc
  have hb:l=[]:=by
   cases l with
   | nil=>rfl
   | cons x b=>simp at hnb
  subst hb
  refine Z4a ?_
  exact q2z (q4r hB (q2o rfl .nil) rfl rfl)
 ·refine Z2 ?_
  refine Z4b ?_
  refine Z44 ?_
  refine ao2 Y1k (q5i (sz:=1) (bytes:=8) rfl (Src.pl rfl (qzt l)) rfl (by decide) Y1x Y1x (qd3 0 l)) ?_
  exact Z4e
def qs9 (l:List Int) (k:Nat):Int:=if k=0 then 0 else (l[k-1]?).getD 0
theorem qyo {id:Int} {l:List Int} {k:Nat} {n:Int} (hn:l[k]?=some n) (h:∀ i,i<k→ndB id l i=true):ndB id l k = !(decide (n≤qs9 l k)||decide (id≤n)):=by
 rw [qlr hn,qs9]
 cases k with
 | zero=>simp;rw [Bool.eq_iff_iff];simp;omega
 | succ k =>
  have hk:k<l.length:=by have:=(List.getElem?_eq_some_iff.1 hn).1;omega
  have hm:l[k]?=some l[k]:=List.getElem?_eq_getElem hk
  have h1:=h k (by omega)
  rw [qlr hm] at h1
  simp only [Bool.and_eq_true,decide_eq_true_eq] at h1
  simp only [Nat.add_sub_cancel,hm,Option.getD_some]
  rw [Bool.eq_iff_iff]
  simp
  omega
theorem qvy (j:Job) (H:qf):AC Tryz.prog 147 [.agg (qx j)] H (Ret (.bool (qah j)) H):=by
 refine AC.body (N:=28) [.tmp 2] Tryz.func147 rfl rfl rfl (Nat.le_of_ble_eq_true rfl) fun B hB=>?_
 refine Z4g ?_
 refine Z2w ?_
 refine Z4j ?_
 refine Z4k ?_
 refine Z2p ?_
 refine Z4m ?_
 refine qa rfl (fun hc=>?_) (fun hc=>?_)
 ·refine Zf ?_
  rw [show qah j=false by simp at hc;simp [qah];omega]
  exact Zb
 have hl:j.needs.length≤16:=by simp at hc;omega
 rw [show qah j=qnf j.id j.needs by simp [qah,hl]]
 refine Z5 ?_
 refine Z4j ?_
 refine Z4q ?_
 refine qm (G:=Nat) (fun k=>k≤j.needs.length∧∀ i,i<k→ndB j.id j.needs i=true) (fun k=>[(1,.pt (Lid H.length 0) 0 0 0),(3,.int .i64 (qs9 j.needs k)),(11,.pl (j.needs.map eI)),(12,.int .i64 (j.needs.length:Int)),(13,.int .i64 (k:Int))]) (fun _=>H++[⟨0,13,[qx j]⟩]) (fun k=>j.needs.length-k) 0 ⟨Nat.zero_le _,fun i hi=>by omega⟩ Y8 (Fit.refl _ _) ?_
 rintro k ⟨hk,hno⟩
 refine Z4r ?_
 refine qa rfl (fun hc=>?_) (fun hc=>?_)
 ·have hlt:k<j.needs.length:=by simpa using hc
  obtain ⟨x,hx,hxl⟩:=qr hlt
  have hr:=qk eI hx
  have hok:=qyo hx hno
  refine Z4v ?_
  refine Za ?_
  refine qq 25 (.bool (!ndB j.id j.needs k)) ?_ ?_
  ·refine Z2r ?_
   refine Zi ?_
   refine qb rfl rfl (fun hg3=>?_) (fun hg3=>?_)
   ·refine Z4x ?_
    exact Z4y
   ·refine Zj ?_
    refine Z3s ?_
    refine Zr ?_
    exact Z4z
  refine Z1 ?_
  refine qa rfl (fun hc=>?_) (fun hc=>?_)
  ·refine Zf ?_
   rw [qyk hlt Y1t]
   exact Zb
  ·have hlast:qs9 j.needs (k+1)=x:=by rw [qs9,if_neg (by omega),Nat.add_sub_cancel,hx];rfl
   refine Z1c ?_
   refine Z52 ?_
   refine ⟨k+1,by omega,⟨by omega,fun i hi=>?_⟩,by rw [hlast];exact Y8,.refl _ _⟩
   rcases Nat.lt_or_eq_of_le (Nat.le_of_lt_succ hi) with h | h
   ·exact hno i h
   ·subst h;simpa using hc
 ·have:k=j.needs.length:=by simp at hc;omega
  subst this
  rw [qui hno]
  exact Z53
set_option maxHeartbeats 0 in
theorem qwc (j:Job) (H:qf):AC Tryz.prog 148 [.agg (qx j)] H (Ret (.bool (q4q j)) H):=by
 refine AC.body (N:=78) [.tmp 2] Tryz.func148 rfl rfl rfl (Nat.le_of_ble_eq_true rfl) fun B hB=>?_
 refine Z4g ?_
 refine Z2x ?_
 refine qq 3 (.bool (qat j)) ?_ ?_
 ·refine Z30 ?_
  refine Z54 ?_
  refine Zh ?_
  refine qb rfl rfl (fun hg3=>?_) (fun hg3=>?_)
  ·refine Z55 ?_
   refine Z24 ?_
   refine Zn ?_
   exact qe (Out.mk (by (refine congrArg AV.bool ?_;(simp only [qat,tm] at *;(simp_all;done)))) Yb)
  ·refine Z56 ?_
   exact qe (Out.mk (by (refine congrArg AV.bool ?_;(simp only [qat,tm] at *;(simp_all;omega)))) Yb)
 refine Z1 ?_
 refine qq 4 (.bool (qet j)) ?_ ?_
 ·refine Z30 ?_
  refine Z54 ?_
  refine Zh ?_
  refine qb rfl rfl (fun hg3=>?_) (fun hg3=>?_)
  ·refine Z55 ?_
   refine Z32 ?_
   refine Z57 ?_
   refine Z24 ?_
   refine Zn ?_
   exact qe (Out.mk (by (refine congrArg AV.bool ?_;(simp only [qet,tm] at *;(simp_all;done)))) Yb)
  ·refine Z29 ?_
   refine Zq ?_
   refine Zt ?_
   exact qe (Out.mk (by (refine congrArg AV.bool ?_;(simp only [qet,tm] at *;(simp_all;omega)))) Yb)
 refine Z5b ?_
 refine qa rfl (fun hc=>?_) (fun hc=>?_)
 ·have hs:j.state=0:=by simpa using hc
  refine Z1 ?_
  refine qa rfl (fun hc=>?_) (fun hc=>?_)
  ·refine Z1 ?_
   refine qq 2 (.bool (q4q j)) ?_ ?_
   ·refine Z30 ?_
    refine Z3o ?_
    refine qb rfl rfl (fun hg3=>?_) (fun hg3=>?_)
    ·refine Z32 ?_
     refine Z3p ?_
     exact Z5d
    ·refine Z1z ?_
     exact Z5c
   exact Z20
  ·simp [hs] at hc
 ·have h0:j.state≠0:=by simpa using hc
  refine q18 ?_
  refine Z13 ?_
  refine qa rfl (fun hc=>?_) (fun hc=>?_)
  ·have hs:j.state=1:=by simpa using hc
   refine Z1 ?_
   refine qq 2 (.bool (q4q j)) ?_ ?_
   ·refine Z30 ?_
    refine Z3o ?_
    refine qb rfl rfl (fun hg3=>?_) (fun hg3=>?_)
    ·refine Z32 ?_
     refine Z3p ?_
     exact Z5d
    ·refine Z1z ?_
     exact Z5c
   exact Z20
  ·have h1:j.state≠1:=by simpa using hc
   refine Z5a ?_
   refine qa rfl (fun hc=>?_) (fun hc=>?_)
   ·have hs:j.state=2:=by simpa using hc
    refine Z1 ?_
    refine qq 2 (.bool (q4q j)) ?_ ?_
    ·refine Z3j ?_
     refine qb rfl rfl (fun hg1=>?_) (fun hg1=>?_)
     ·refine Z32 ?_
      refine Z3p ?_
      exact Z5d
     ·refine Z1z ?_
      exact Z5c
    exact Z20
   ·have h2:j.state≠2:=by simpa using hc
    refine Z5a ?_
    refine qa rfl (fun hc=>?_) (fun hc=>?_)
    ·have hs:j.state=3:=by simpa using hc
     refine Z1 ?_
     refine qa rfl (fun hc=>?_) (fun hc=>?_)
     ·refine Z1 ?_
      refine qq 2 (.bool (q4q j)) ?_ ?_
      ·refine Z3j ?_
       refine qb rfl rfl (fun hg1=>?_) (fun hg1=>?_)
       ·refine Z25 ?_
        exact Z5d
       ·refine Z5e ?_
        exact Z5c
      exact Z20
     ·simp [hs] at hc
    ·have h3:j.state≠3:=by simpa using hc
     refine q18 ?_
     refine Z13 ?_
     refine qa rfl (fun hc=>?_) (fun hc=>?_)
     ·have hs:j.state=4:=by simpa using hc
      refine Z1 ?_
      refine qq 2 (.bool (q4q j)) ?_ ?_
      ·refine Z3j ?_
       refine qb rfl rfl (fun hg1=>?_) (fun hg1=>?_)
       ·refine Z25 ?_
        exact Z5d
       ·refine Z5e ?_
        exact Z5c
      exact Z20
     ·have h4:j.state≠4:=by simpa using hc
      refine Z5a ?_
      refine qa rfl (fun hc=>?_) (fun hc=>?_)
      ·have hs:j.state=5:=by simpa using hc
       refine Z1 ?_
       refine qq 2 (.bool (q4q j)) ?_ ?_
       ·refine Z3j ?_
        refine qb rfl rfl (fun hg1=>?_) (fun hg1=>?_)
        ·refine Z3d ?_
         refine Z25 ?_
         exact Z5d
        ·refine Z32 ?_
         refine Z3p ?_
         refine Z3g ?_
         refine qb rfl rfl (fun hg6=>?_) (fun hg6=>?_)
         ·refine Z25 ?_
          exact Z5d
         ·refine Z5e ?_
          exact Z5c
       exact Z20
      ·have h5:j.state≠5:=by simpa using hc
       refine Z1 ?_
       refine qq 2 (.bool (q4q j)) ?_ ?_
       ·refine Z30 ?_
        refine Z3o ?_
        refine qb rfl rfl (fun hg3=>?_) (fun hg3=>?_)
        ·refine Z32 ?_
         refine Z3q ?_
         refine qb rfl rfl (fun hg8=>?_) (fun hg8=>?_)
         ·refine Z25 ?_
          refine Zn ?_
          exact Z5f
         ·refine Z5e ?_
          exact Z5f
        ·refine Z37 ?_
         refine Z5e ?_
         exact Z5f
       exact Z20
theorem qlh (j:Job) (H:qf):AC Tryz.prog 109 [.agg (qx j)] H (Ret (.bool (q28 j)) H):=by
 refine AC.body (N:=29) [.tmp 2] Tryz.func109 rfl rfl rfl (Nat.le_of_ble_eq_true rfl) fun B hB=>?_
 refine Z4g ?_
 refine Z2x ?_
 refine qq 2 (.bool (q28 j)) ?_ ?_
 ·refine Z30 ?_
  refine Z21 ?_
  refine qb rfl rfl (fun hg3=>?_) (fun hg3=>?_)
  ·refine Z32 ?_
   refine Zx ?_
   refine Z34 ?_
   refine qb rfl rfl (fun hg8=>?_) (fun hg8=>?_)
   ·refine Z31 ?_
    refine Z5g ?_
    refine Z5h ?_
    refine Z34 ?_
    refine qb rfl rfl (fun hg13=>?_) (fun hg13=>?_)
    ·refine Z5i ?_
     refine q6d rfl rfl (by decide) (V2.call (qvy _ _) rfl) ?_
     refine Z34 ?_
     refine qb rfl rfl (fun hg17=>?_) (fun hg17=>?_)
     ·refine Z32 ?_
      refine Z5j ?_
      refine Z34 ?_
      refine qb rfl rfl (fun hg22=>?_) (fun hg22=>?_)
      ·refine Z5i ?_
       refine q6d rfl rfl (by decide) (V2.call (qwc _ _) rfl) ?_
       refine Zn ?_
       exact Z5k
      ·refine Zt ?_
       exact Z5l
     ·refine Z5m ?_
      exact Z5k
    ·refine Z5n ?_
     refine Z5m ?_
     exact Z5k
   ·refine Z37 ?_
    refine Z5n ?_
    refine Z5m ?_
    exact Z5l
  ·refine Z37 ?_
   refine Z37 ?_
   refine Z5n ?_
   refine Z5m ?_
   exact Z5l
 exact Z20
set_option maxHeartbeats 0 in
theorem qxd (s w:Int) (H:qf):AC Tryz.prog 239 [.int .i64 s,.int .i64 w] H (Ret (.tup [.int .i64 (nx s w).1,.bool (nx s w).2]) H):=by
 refine AC.body (N:=56) [.tmp 4,.tmp 5] Tryz.func239 rfl rfl rfl (Nat.le_of_ble_eq_true rfl) fun B hB=>?_
 refine Z5p ?_
 refine qq 6 (.bool (decide (s=0∧w=1))) ?_ ?_
 ·refine Z5q ?_
  refine qb rfl rfl (fun hg2=>?_) (fun hg2=>?_)
  ·exact Z5t
  ·refine Zt ?_
   exact Z1w
 refine Z1 ?_
 refine qa rfl (fun hc=>?_) (fun hc=>?_)
 ·have h:s=0∧w=1:=by simpa only [decide_eq_true_eq] using hc
  have e:nx s w=(1,true):=by rw [nx,q56,if_pos h]
  refine Z5p ?_
  rw [e]
  exact Z5u
 have h0:¬ (s=0∧w=1):=by simpa only [decide_eq_false_iff_not] using hc
 refine Z1 ?_
 refine qq 13 (.bool (decide (s=1∧w=2))) ?_ ?_
 ·refine Z5q ?_
  refine qb rfl rfl (fun hg2=>?_) (fun hg2=>?_)
  ·exact Z5t
  ·refine Zt ?_
   exact Z1w
 refine Z1 ?_
 refine qa rfl (fun hc=>?_) (fun hc=>?_)
 ·have h:s=1∧w=2:=by simpa only [decide_eq_true_eq] using hc
  have e:nx s w=(0,true):=by rw [nx,q56,if_neg h0,if_pos h]
  refine Z5p ?_
  rw [e]
  exact Z5u
 have h1:¬ (s=1∧w=2):=by simpa only [decide_eq_false_iff_not] using hc
 refine Z1 ?_
 refine qq 20 (.bool (decide (s=0∧w=3))) ?_ ?_
 ·refine Z5q ?_
  refine qb rfl rfl (fun hg2=>?_) (fun hg2=>?_)
  ·exact Z5t
  ·refine Zt ?_
   exact Z1w
 refine Z1 ?_
 refine qa rfl (fun hc=>?_) (fun hc=>?_)
 ·have h:s=0∧w=3:=by simpa only [decide_eq_true_eq] using hc
  have e:nx s w=(2,true):=by rw [nx,q56,if_neg h0,if_neg h1,if_pos h]
  refine Z5p ?_
  rw [e]
  exact Z5u
 have h2:¬ (s=0∧w=3):=by simpa only [decide_eq_false_iff_not] using hc
 refine Z1 ?_
 refine qq 27 (.bool (decide (s=2∧w=4))) ?_ ?_
 ·refine Z5q ?_
  refine qb rfl rfl (fun hg2=>?_) (fun hg2=>?_)
  ·exact Z5t
  ·refine Zt ?_
   exact Z1w
 refine Z1 ?_
 refine qa rfl (fun hc=>?_) (fun hc=>?_)
 ·have h:s=2∧w=4:=by simpa only [decide_eq_true_eq] using hc
  have e:nx s w=(3,true):=by rw [nx,q56,if_neg h0,if_neg h1,if_neg h2,if_pos h]
  refine Z5p ?_
  rw [e]
  exact Z5u
 have h3:¬ (s=2∧w=4):=by simpa only [decide_eq_false_iff_not] using hc
 refine Z1 ?_
 refine qq 34 (.bool (decide (s=2∧w=5))) ?_ ?_
 ·refine Z5q ?_
  refine qb rfl rfl (fun hg2=>?_) (fun hg2=>?_)
  ·exact Z5t
  ·refine Zt ?_
   exact Z1w
 refine Z1 ?_
 refine qa rfl (fun hc=>?_) (fun hc=>?_)
 ·have h:s=2∧w=5:=by simpa only [decide_eq_true_eq] using hc
  have e:nx s w=(4,true):=by rw [nx,q56,if_neg h0,if_neg h1,if_neg h2,if_neg h3,if_pos h]
  refine Z5p ?_
  rw [e]
  exact Z5u
 have h4:¬ (s=2∧w=5):=by simpa only [decide_eq_false_iff_not] using hc
 refine Z1 ?_
 refine qq 41 (.bool (decide (s≤2∧w=6))) ?_ ?_
 ·refine Z8 ?_
  refine Zi ?_
  refine qb rfl rfl (fun hg2=>?_) (fun hg2=>?_)
  ·exact Z5t
  ·refine Zt ?_
   exact Z5v
 refine Z1 ?_
 refine qa rfl (fun hc=>?_) (fun hc=>?_)
 ·have h:s≤2∧w=6:=by simpa only [decide_eq_true_eq] using hc
  have e:nx s w=(5,true):=by rw [nx,q56,if_neg h0,if_neg h1,if_neg h2,if_neg h3,if_neg h4,if_pos h]
  refine Z5p ?_
  rw [e]
  exact Z5u
 have h5:¬ (s≤2∧w=6):=by simpa only [decide_eq_false_iff_not] using hc
 refine Z1 ?_
 refine qq 48 (.bool (decide (s<2∧w=7))) ?_ ?_
 ·refine Zw ?_
  refine qb rfl rfl (fun hg2=>?_) (fun hg2=>?_)
  ·exact Z5t
  ·refine Zt ?_
   exact Z5v
 refine Z1 ?_
 refine qa rfl (fun hc=>?_) (fun hc=>?_)
 ·have h:s<2∧w=7:=by simpa only [decide_eq_true_eq] using hc
  have e:nx s w=(6,true):=by rw [nx,q56,if_neg h0,if_neg h1,if_neg h2,if_neg h3,if_neg h4,if_neg h5,if_pos h]
  refine Z5p ?_
  rw [e]
  exact Z5u
 have h6:¬ (s<2∧w=7):=by simpa only [decide_eq_false_iff_not] using hc
 have e:nx s w=(s,false):=by rw [nx,q56,if_neg h0,if_neg h1,if_neg h2,if_neg h3,if_neg h4,if_neg h5,if_neg h6]
 refine Z11 ?_
 refine Z5o ?_
 rw [e]
 exact Z5u
theorem qof (s:Int) (H:qf):AC Tryz.prog 169 [.int .i64 s] H (Ret (.bool (q5h s)) H):=by
 refine AC.body (N:=9) [.tmp 2] Tryz.func169 rfl rfl rfl (Nat.le_of_ble_eq_true rfl) fun B hB=>?_
 refine Zf ?_
 refine qq 2 (.bool (q5h s)) ?_ ?_
 ·refine Z8 ?_
  refine Z21 ?_
  refine qb rfl rfl (fun hg2=>?_) (fun hg2=>?_)
  ·refine Zj ?_
   refine Zy ?_
   exact qe (Out.mk (by (refine congrArg AV.bool ?_;(simp only [q5h] at *;(simp_all;done)))) Yb)
  ·refine Zt ?_
   exact qe (Out.mk (by (refine congrArg AV.bool ?_;(simp only [q5h] at *;(simp_all;omega)))) Yb)
 exact Z20
set_option maxHeartbeats 0 in
theorem q134 (j:Job) (w now:Int) (hn:j.needs.length≤1000000) (H:qf):AC Tryz.prog 205 [.agg (qx j),.int .i64 w,.int .i64 now] H (Ret (.tup [.agg (qx (jdo j w now).1),.int .i64 (jdo j w now).2]) H):=by
 refine AC.body (N:=61) [.cell 6 98,.tmp 7] Tryz.func205 rfl rfl rfl (Nat.le_of_ble_eq_true rfl) fun B hB=>?_
 refine Z4g ?_
 refine Z5w ?_
 refine Z4 ?_
 refine Z5x ?_
 refine Z4j ?_
 refine Z5y ?_
 refine Z2y ?_
 refine Z5z ?_
 refine Z61 ?_
 refine Z1 ?_
 refine qq 38 (.bool (qmz j w now)) ?_ ?_
 ·refine Z3u ?_
  refine qu (qlh _ _) rfl (by decide) ?_
  refine Z23 ?_
  refine qb rfl rfl (fun hg3=>?_) (fun hg3=>?_)
  ·refine Z62 ?_
   refine Z62 ?_
   refine Z3d ?_
   refine Z63 ?_
   exact Z64
  ·refine Zl ?_
   refine Z3g ?_
   refine qb rfl rfl (fun hg7=>?_) (fun hg7=>?_)
   ·refine Z62 ?_
    refine Z3d ?_
    refine Z63 ?_
    exact Z64
   ·refine Z65 ?_
    refine Z3g ?_
    refine qb rfl rfl (fun hg11=>?_) (fun hg11=>?_)
    ·refine Z3d ?_
     refine Z63 ?_
     exact Z64
    ·refine Zj ?_
     refine Z5j ?_
     refine Z66 ?_
     refine qb rfl rfl (fun hg16=>?_) (fun hg16=>?_)
     ·refine Z63 ?_
      exact Z64
     ·refine Zj ?_
      refine Z55 ?_
      refine Z57 ?_
      refine Zk ?_
      refine Zr ?_
      exact qe (Out.mk (by (refine congrArg AV.bool ?_;(simp only [qmz,tm] at *;(simp_all;omega)))) Yb)
 refine Z1 ?_
 refine qa rfl (fun hc=>?_) (fun hc=>?_)
 ·refine Z3v ?_
  refine Z68 ?_
  refine Z6a ?_
  rw [show jdo j w now=(j,1) by rw [jdo,if_pos hc]]
  exact Z6b
 have hb:qmz j w now=false:=hc
 have c4:=fun H=>qxd j.state w H
 cases hnx:q56 j.state w with
 | none =>
  rw [show nx j.state w=(j.state,false) by rw [nx,hnx]] at c4
  refine Z6c ?_
  refine Z6d ?_
  refine Z6j ?_
  refine Z6k ?_
  refine Z6l ?_
  refine qa rfl (fun hc=>?_) (fun hc=>?_)
  ·refine Z3v ?_
   refine Z68 ?_
   refine Z6a ?_
   rw [show jdo j w now=(j,8) by rw [jdo,if_neg (by rw [hb];simp),hnx]]
   exact Z6b
  ·simp at hc
 | some s =>
  rw [show nx j.state w=(s,true) by rw [nx,hnx]] at c4
  rw [show jdo j w now=(q4j j s now,0) by rw [jdo,if_neg (by rw [hb];simp),hnx]]
  refine Z6c ?_
  refine Z6d ?_
  refine Z6j ?_
  refine Z6k ?_
  refine Z6l ?_
  refine qa rfl (fun hc=>?_) (fun hc=>?_)
  ·simp at hc
  refine Z11 ?_
  refine Z2y ?_
  refine Z6m ?_
  refine Z61 ?_
  refine Z17 ?_
  refine qa rfl (fun hc=>?_) (fun hc=>?_)
  ·have hs:s=2:=by simpa using hc
   rw [show q4j j s now=⟨j.id,j.spec,j.needs,s,j.came,now,j.tto⟩ by rw [q4j,if_pos hs,if_neg (by rw [hs];decide)]]
   refine Z6n ?_
   refine Z2y ?_
   refine Z6m ?_
   refine Z61 ?_
   refine Z11 ?_
   refine Z6o ?_
   refine Z9 ?_
   refine qa rfl (fun hc=>?_) (fun hc=>?_)
   ·rw [hs] at hc;exact absurd hc (by decide)
   refine Z3v ?_
   refine Z68 ?_
   exact Z6q
  ·have hs:¬ s=2:=by simpa using hc
   refine Z11 ?_
   refine Z6o ?_
   refine Z9 ?_
   refine qa rfl (fun hc=>?_) (fun hc=>?_)
   ·rw [show q4j j s now=⟨j.id,j.spec,j.needs,s,j.came,j.frm,now⟩ by rw [q4j,if_neg hs,if_pos hc]]
    refine Z6n ?_
    refine Z2y ?_
    refine Z6m ?_
    refine Z61 ?_
    refine Z3v ?_
    refine Z68 ?_
    exact Z6q
   ·rw [show q4j j s now=⟨j.id,j.spec,j.needs,s,j.came,j.frm,j.tto⟩ by rw [q4j,if_neg hs,if_neg (by rw [hc];simp)]]
    refine Z3v ?_
    refine Z68 ?_
    exact Z6q
theorem q12c {α:Type} {a b:List α} {k:Nat} {x:α} (hx:a[k]?=some x) (hy:b[k]?=some x) (h:a.take k=b.take k):a.take (k+1)=b.take (k+1):=by
 rw [ql hx,ql hy,h]
theorem q12b {α:Type} {a b:List α} (hn:a.length=b.length) (h:a.take a.length=b.take a.length):a=b:=by
 rw [List.take_length,hn,List.take_length] at h;exact h
theorem q14m {α:Type} {a b:List α} {k:Nat} {x y:α} (hx:a[k]?=some x) (hy:b[k]?=some y) (h:x≠y):a≠b:=by
 rintro rfl;rw [hx] at hy;exact h (Option.some.inj hy)
theorem qgc (a b:List Int) (H:qf) (ha:a.length≤1000000000):AC Tryz.prog 39 [.pl (a.map eI),.pl (b.map eI)] H (Ret (.bool (decide (a=b))) H):=by
 refine AC.body (N:=26) [.tmp 4] Tryz.func39 rfl rfl rfl (Nat.le_of_ble_eq_true rfl) fun B hB=>?_
 refine Z6s ?_
 refine Z6t ?_
 refine Z6u ?_
 refine qa rfl (fun hc=>?_) (fun hc=>?_)
 ·have hn:a.length≠b.length:=by simp at hc;omega
  rw [show decide (a=b)=false by simp;intro e;exact hn (congrArg List.length e)]
  exact Z53
 have hn:a.length=b.length:=by simp at hc;omega
 refine Z1e ?_
 refine qm (G:=Nat) (fun k=>k≤a.length∧a.take k=b.take k) (fun k=>[(0,.pl (a.map eI)),(1,.pl (b.map eI)),(5,.int .i64 (k:Int))]) (fun _=>H++[]) (fun k=>a.length-k) 0 ⟨Nat.zero_le _,by simp⟩ Y8 (Fit.refl _ _) ?_
 rintro k ⟨hk,he⟩
 refine Z11 ?_
 refine Z6t ?_
 refine Z1f ?_
 refine qa rfl (fun hc=>?_) (fun hc=>?_)
 ·have hlt:k<a.length:=by simpa using hc
  obtain ⟨x,hx,_⟩:=qr hlt
  obtain ⟨y,hy,_⟩:=qr (l:=b) (k:=k) (by omega)
  have hr:=qk eI hx
  have hr1:=qk eI hy
  refine Z1 ?_
  refine Z1g ?_
  refine Z6v ?_
  refine Z1i ?_
  refine Z6w ?_
  refine Z6x ?_
  refine Z6y ?_
  refine Z1l ?_
  refine Z6z ?_
  refine Z70 ?_
  refine Z71 ?_
  refine Z1k ?_
  refine Z1 ?_
  refine qa rfl (fun hc=>?_) (fun hc=>?_)
  ·rw [show decide (a=b)=false by simp;exact q14m hx hy Y1t]
   exact Z53
  ·have hxy:x=y:=by simpa using hc
   subst hxy
   refine Z2h ?_
   exact ⟨k+1,by omega,⟨by omega,q12c hx hy he⟩,Y8,.refl _ _⟩
 ·have:k=a.length:=by simp at hc;omega
  subst this
  rw [show decide (a=b)=true by simp;exact q12b hn he]
  exact Z53
end Go.Av
namespace Go.Av
structure Know where
 g:Nat
 tab:List Value
def Kn (K:Know) (S:List Slot) (w:World):Prop:=¬ own S K.g∧K.g<w.heap.size∧(∀ j v,K.tab[j]?=some v→w.cell? ⟨K.g,j,none⟩=some v)∧∃ ty fz,w.heap[K.g]?=some (Obj.cells K.tab.toArray ty fz)
abbrev Know.av (K:Know):AV:=.know K.g K.tab
theorem VR.kn {S:List Slot} {w:World} {K:Know} {u:Value} (h:VR (own S) w S K.av u):Kn K S w:=by
 cases h with
 | know ho hg h hx=>exact ⟨ho,hg,h,hx⟩
theorem Kn.vr {S:List Slot} {w:World} {K:Know} {u:Value} (h:Kn K S w):VR (own S) w S K.av u:=.know h.1 h.2.1 h.2.2.1 h.2.2.2
def ACT (P:Program) (K:Know) (f:FuncId) (args:List AV) (H:qf) (R:AOut→qf→Prop):Prop :=
 ∀ S w cargs,Kn K S w→HRel H S w→VRs (own S) w S args cargs →
  Calls P f cargs w fun e w'=>∃ o H' S',R o H'∧OutR (own S') w' S' o e∧HRel H' S' w'∧Ext S w S' w'
section
variable {P : Program} {N : Nat} {B : Base} {env : Env} {H H0 L : qf} {ty : TypeId}
theorem V2.callT {K:Know} {f:Nat} {xs:Array Operand} {ts:Array TypeId} {v:AV} {vs:List AV} {M:qf} [FnI P f] (hac:ACT P K f vs H (Ret v M)) (hvs:xs.toList.map (aev env)=vs) (hk:get env KT=K.av) :
  V2 P N (.call { callee:=.value (.func f),args:=xs,argTypes:=ts }) ty env H v M:=by
 subst hvs
 intro dst pos after guard S a w hc next Q hn hp
 have hkn:=hc.env KT
 rw [hk] at hkn
 have hrun:(execOp a.eval ⟨dst,.call { callee:=.value (.func f),args:=xs,argTypes:=ts },ty,pos,after,guard⟩).run P w = .ok (.enter f (xs.map a.eval)) w:=by
  simp [execOp,resolve,Act.eval,Deferred.ofValue,invoke,q4o (P:=P) (f:=f)]
 unfold Oper.wp
 rw [hrun]
 refine (hac S w (xs.map a.eval) hkn.kn hc.heap (qgf hc xs)).mono ?_
 rintro e w' ⟨out,H',S',⟨rfl,rfl⟩,hout,hh,hx⟩
 cases hout with
 | ret hv=>exact hn _ _ _ S' w' ⟨rfl,rfl⟩ hh hx hv
theorem ACT.up {K:Know} {f:FuncId} {vs us:List AV} {R:AOut→qf→Prop} (h:ACT P K f us H R) (hvs:vs.map AV.up=us):ACT P K f vs H R:=fun S w cargs hk hH hv=>h S w cargs hk hH (hvs▸hv.up)
theorem ACT.body {K:Know} {f:FuncId} {N:Nat} {fn:Func} {c:Code} {args:List AV} {R:AOut→qf→Prop} (rs:List ResultVar) (hf:P.funcs[f]?=some fn) (hb:fn.body=some c) (hr:fn.results=rs.toArray)
  (hN:fn.ntmps=N) (hn:args.length≤N) (h:∀ B,Begun B H args→AWp P N B c (Ends P B rs R) ((KT,K.av) :: params 0 args) (H++[])):ACT P K f args H R:=by
 subst hN
 simp only [List.append_nil] at h
 intro S w cargs hkn hH hv
 refine calls_of_wp hf hb ?_
 have hc:CR fn.ntmps ((KT,K.av) :: params 0 args) H S { tmps:=cargs++Array.replicate (fn.ntmps-cargs.size) undef,defers:=[] } w:=by
  refine ⟨hH,fun t=>?_,?_,rfl⟩
  ·by_cases hKT:KT=t
   ·subst hKT;rw [qt];exact hkn.vr
   rw [qg _ _ hKT,qc9,if_pos (Nat.zero_le _),Nat.sub_zero]
   by_cases ht:t<args.length
   ·have h1:args.getD t .junk=args[t]:=by simp [List.getD,ht]
    have ht':t<cargs.size:=by rw [← hv.1];exact ht
    have h2:(cargs++Array.replicate (fn.ntmps-cargs.size) undef).getD t undef=cargs[t]:=by
     simp [Array.getElem?_append_left ht',ht']
    rw [h1,h2]
    exact hv.2 t _ _ (List.getElem?_eq_getElem ht) (Array.getElem?_eq_getElem ht')
   ·have h1:args.getD t .junk = .junk:=by simp [List.getD,List.getElem?_eq_none (Nat.le_of_not_lt ht)]
    rw [h1];exact .junk
  ·have:=hv.1
   simp
   omega
 have hbg:Begun ⟨S,w⟩ H args:=by
  refine ⟨hH.len.symm,hH.bel,?_⟩
  rw [AV.bels_iff]
  intro v hv'
  obtain ⟨j,hj⟩:=List.mem_iff_getElem?.1 hv'
  rw [hH.len]
  exact (hv.2 j v _ hj (Array.getElem?_eq_getElem Yn)).bel
 refine wp_mono (h ⟨S,w⟩ hbg S _ w hc (Ext.refl S w)) ?_
 intro e a' w' ⟨x,env',H',S',q,r,c,k⟩
 cases r with
 | nrm =>
  obtain ⟨vs,M,h1,h2,h3⟩:=q
  obtain ⟨u,k1,k2⟩:=q7g c hr h1
  obtain ⟨S2,m1,m2,m3⟩:=h2.ok c.heap k2 k
  exact ⟨c.defers,u,k1,_,M,S2,h3,.ret m2,m1,m3⟩
 | ret =>
  obtain ⟨vs,M,h1,h2,h3⟩:=q
  obtain ⟨u,k1,k2⟩:=q7g c hr h1
  obtain ⟨S2,m1,m2,m3⟩:=h2.ok c.heap k2 k
  exact ⟨c.defers,u,k1,_,M,S2,h3,.ret m2,m1,m3⟩
 | brk=>exact q.elim
 | pan hv =>
  obtain ⟨M,h2,h3⟩:=q
  obtain ⟨S2,m1,m2,m3⟩:=h2.ok c.heap hv k
  exact ⟨c.defers,_,M,S2,h3,.pan m2,m1,m3⟩
theorem qmp {t e:TypeId} {x y:Operand} {g m n:Nat} {k:IntKind} {sz:Nat} {agg:Bool} [ArI P t m e] [TyI P e agg sz] (hx:aev env x = .raw (.pointer (some ⟨g,0,none⟩))) (hy:aev env y = .int k (n:Int)) (h1:n<m) :
  V1 P N (.indexAddr t x y) ty env H (.raw (.pointer (some ⟨g,n * sz,none⟩))):=by
 intro S a w hc
 have hv:=hc.ev x
 rw [hx] at hv
 generalize he:a.eval x=u at hv
 cases hv
 refine ⟨.pointer (some ⟨g,n * sz,none⟩),fun _ _ _ _=>?_,.raw⟩
 simp [execOp,he,q1e hc hy,qct (P:=P) (t:=t) (e:=e) (sz:=sz) (agg:=agg) (n:=(n:Int)) (by omega) (by omega),q3z]
theorem qrn {K:Know} {t:TypeId} {x:Operand} {g j sz:Nat} {v:AV} {u:Value} [TyI P t false sz] (hx:aev env x = .raw (.pointer (some ⟨g,j,none⟩))) (hk:get env KT=K.av) (hg:K.g=g) (hu:K.tab[j]?=some u) (hv:∀ O w S,VR O w S v u):V1 P N (.load t x) ty env H v:=by
 intro S a w hc
 have hkn:=hc.env KT
 rw [hk] at hkn
 have hcell:=hkn.kn.2.2.1 j u hu
 rw [hg] at hcell
 have h:=hc.ev x
 rw [hx] at h
 generalize he:a.eval x=y at h
 cases h
 exact ⟨u,fun _ _ _ _=>by simp [execOp,he,Instr.loadAt,Instr.sureAddr,q8x (P:=P) (t:=t) hcell],hv _ _ _⟩
end
end Go.Av
namespace Go.Av
open Go.Proofs
theorem q4k {P:Program} {N:Nat} {env:Env} {H:qf} {ty:TypeId} {t e:TypeId} {x y:Operand} {id g i j m n:Nat} {k:IntKind} {sz:Nat} {agg:Bool} {o:AObj} [ArI P t m e] [TyI P e agg sz] (hx:aev env x = .pt id g i j) (hid:H[id]?=some o) (hg:o.gen=g)
  (hy:aev env y = .int k (n:Int)) (h1:n<m):V1 P N (.indexAddr t x y) ty env H (.pt id g i (j+n * sz)):=q66 (agg:=agg) (e:=e) hx hid hg hy (by omega) (by omega)
theorem p64 {k:Nat} (h:k<64):2 ^ k<18446744073709551616:=Nat.pow_lt_pow_right (a:=2) (n:=64) (by decide) h
def KD:Know:=⟨1,Lib.deBruijn64tab.map fun n:Nat=>Value.int .u8 (n:Int)⟩
theorem q14c {q k:Nat} (hi:q<64) (h:Lib.deBruijn64tab.getD q 0=k):KD.tab[q]?=some (.int .u8 (k:Int)):=by
 have hlen:Lib.deBruijn64tab.length=64:=rfl
 unfold KD
 dsimp only
 generalize Lib.deBruijn64tab=l at h hlen
 rw [List.getElem?_map]
 cases hq:l[q]? with
 | none=>rw [List.getElem?_eq_none_iff] at hq;omega
 | some v =>
  rw [List.getD_eq_getElem?_getD,hq] at h
  subst h
  rfl
theorem q10n (x:Nat) (hx:x<18446744073709551616) (H:qf):ACT Tryz.prog KD 258 [.int .u64 (x:Int)] H (Ret (.int .i64 ((Lib.ctz 64 x:Nat):Int)) H):=by
 refine ACT.body (N:=14) [.tmp 2] Tryz.func258 rfl rfl rfl (Nat.le_of_ble_eq_true rfl) fun B hB=>?_
 refine Z5 ?_
 refine Z17 ?_
 refine qa rfl (fun hc=>?_) (fun hc=>?_)
 ·refine Zz ?_
  rw [show Lib.ctz 64 x=64 by simp at hc;simp [Lib.ctz,hc]]
  exact Zb
 ·have hx0:x≠0:=by simp at hc;omega
  obtain ⟨hlow,hk⟩:=Lib.lowest_bit 64 x hx0 hx
  generalize Lib.ctz 64 x=k at hlow hk
  obtain ⟨hi,htab⟩:=Lib.deBruijn64_at k hk
  have hlt:2 ^ k<18446744073709551616:=p64 hk
  generalize hm:2 ^ k=m at hlow hi htab hlt
  generalize hq:m * 285870213051353865 % 18446744073709551616 / 288230376151711744=q at hi htab
  have hu:=q14c hi htab
  refine Z2k ?_
  refine ao1 (by decide) (q10s (r:=((18446744073709551616-x:Nat):Int)) rfl Y14) ?_
  refine ao1 (by decide) (qw8 (r:=(m:Int)) rfl rfl (by rw [qig x _ hx (by omega)];rw [show (18446744073709551616:Nat)=2 ^ 64 from rfl,hlow])) ?_
  refine ao1 (by decide) (qfu (r:=((m * 285870213051353865 % 18446744073709551616:Nat):Int)) rfl rfl Y14) ?_
  refine ao1 (by decide) (qmv (r:=(q:Int)) rfl rfl (by omega) (by rw [← hq,show ((2:Int) ^ min (58:Int).toNat IntKind.u64.bits)=((288230376151711744:Nat):Int) from rfl,Int.fdiv_eq_ediv_of_nonneg _ (by omega)];exact (Int.natCast_ediv _ _).symm)) ?_
  refine ao1 (by decide) (qmp (n:=q) rfl rfl (by omega)) ?_
  refine ao1 (by decide) (qrn (K:=KD) (v:=.int .u8 (k:Int)) rfl rfl rfl (by rw [Nat.mul_one];exact hu) (fun _ _ _=>.int)) ?_
  refine ao1 (by decide) (qn (r:=(k:Int)) rfl (qc (by omega) (by omega))) ?_
  exact Zc
abbrev q35 (i:Int):List AV:=[.int .i64 i]
theorem q3a (n:Nat) (l:List Int):∀ r∈l.map q35,AV.bels n r=true:=q5z (e:=q35) (fun _=>rfl) l
theorem qx4 (l:List Int):∀ r∈l.map q35,r.length=1:=q5a (e:=q35) (n:=1) (fun _=>rfl) l
theorem qiz (n:Nat) (w:Nat→Nat):AV.bels n (eWn w)=true:=by rw [AV.bels_iff];intro v hv;simp only [eWn,List.mem_map] at hv;obtain ⟨i,_,rfl⟩:=hv;rfl
theorem q6r (w:Nat→Nat):(eWn w).length=4:=by simp [eWn]
theorem eW0 (l:List Int):eWn (wd (q52 l 0))=[.int .u64 0,.int .u64 0,.int .u64 0,.int .u64 0]:=by
 rw [qta];simp [eWn,q11j,List.range_succ]
def pof (l:List Int):Nat→Nat:=wd (q52 l (okn l))
theorem q12h (l:List Int) (hl:l.length≤9223372036854775807) (H:qf):AC Tryz.prog 120 [.pl (l.map q35)] H (Ret (.tup [.agg (eWn (pof l)),.bool (sok l)]) H):=by
 refine AC.body (N:=34) [.cell 2 166,.tmp 3] Tryz.func120 rfl rfl rfl (Nat.le_of_ble_eq_true rfl) fun B hB=>?_
 refine Z2 ?_
 refine Z72 ?_
 refine Z1n ?_
 refine Z73 ?_
 refine Z2 ?_
 refine Z72 ?_
 refine qe ?_
 refine Z74 ?_
 refine Z77 ?_
 refine qm (G:=Nat) (fun k=>k≤l.length∧∀ i,i<k→okB l i=true) (fun k=>[(2,.pt (Lid H.length 0) 0 0 0),(4,.pt (Lid H.length 1) 0 0 0),(5,.int .i64 (qv1 l k)),(8,.pl (l.map q35)),(9,.int .i64 (l.length:Int)),(10,.int .i64 (k:Int))]) (fun k=>H++[⟨0,4,[[.int .u64 0,.int .u64 0,.int .u64 0,.int .u64 0]]⟩,⟨0,4,[eWn (wd (q52 l k))]⟩]) (fun k=>l.length-k) 0 ⟨Nat.zero_le _,fun i hi=>by omega⟩ Y8 (.inl (by rw [eW0])) ?_
 rintro k ⟨hk,hno⟩
 refine Z4r ?_
 refine qa rfl (fun hc=>?_) (fun hc=>?_)
 ·have hlt:k<l.length:=by simpa using hc
  obtain ⟨x,hx,hxl⟩:=qr hlt
  have hr:=qk q35 hx
  have hok:=qwu hx hno
  refine Z4v ?_
  refine Za ?_
  refine qq 20 (.bool (!okB l k)) ?_ ?_
  ·refine Z2r ?_
   refine Zi ?_
   refine qb rfl rfl (fun hg3=>?_) (fun hg3=>?_)
   ·refine Z3b ?_
    refine Zm ?_
    exact Z4y
   ·refine Zj ?_
    refine Z24 ?_
    refine Zr ?_
    exact Z4z
  refine Z1 ?_
  refine qa rfl (fun hc=>?_) (fun hc=>?_)
  ·refine Z3v ?_
   refine Z79 ?_
   refine Z7a ?_
   refine Z1 ?_
   rw [qkk hlt Y1t,show wd (q52 l k)=pof l by rw [pof,q135 hlt hno Y1t]]
   exact Z7b
  ·have hokk:okB l k=true:=by simpa using hc
   obtain ⟨h0,h256⟩:=q8q hx hokk
   obtain ⟨n,rfl⟩:∃ n:Nat,x=n:=⟨x.toNat,by omega⟩
   have hn4:n / 64<4:=by omega
   have hp:2 ^ (n % 64)<18446744073709551616:=p64 (by omega)
   have hcell:(eWn (wd (q52 l k)))[0+n / 64 * 1]?=some (.int .u64 ((wd (q52 l k) (n / 64):Nat):Int)):=by rw [Nat.zero_add,Nat.mul_one];exact q8h _ hn4
   have hlast:qv1 l (k+1)=(n:Int):=by rw [qv1,if_neg (by omega),Nat.add_sub_cancel,hx];rfl
   have q57:(eWn (wd (q52 l k))).take (0+n / 64 * 1)++[AV.int .u64 ((wd (q52 l k) (n / 64) ||| 2 ^ (n % 64):Nat):Int)]++(eWn (wd (q52 l k))).drop (0+n / 64 * 1+1)=eWn (wd (q52 l (k+1))):=by
    rw [Nat.zero_add,Nat.mul_one,qt6 _ hn4,qvx hx]
    refine qev fun j _=>?_
    rw [q13h]
    split<;>simp_all
   refine Z1t ?_
   refine qdq mixed (some 9) 1 ?_
   refine Z7c ?_
   refine aq0 1 rfl Y1q (by decide) (fun _=>qz7 (r:=((n / 64:Nat):Int)) rfl rfl (by omega) (qc (n:=((n / 64:Nat):Int)) (by omega) (by omega))) ?_
   refine aqr 2 rfl Y1q (by decide) (fun G hG=>q4k rfl (lk rfl hG) rfl rfl hn4) ?_
   refine aqr 3 rfl Y1q (by decide) (fun G hG=>qh (v:=.int .u64 _) rfl (lk rfl hG) rfl rfl hcell) ?_
   refine Z1j ?_
   refine aq0 5 rfl Y1q (by decide) (fun _=>qr7 (r:=((n % 64:Nat):Int)) rfl rfl (by omega) rfl) ?_
   refine aq0 6 rfl Y1q (by decide) (fun _=>qsl (r:=((2 ^ (n % 64):Nat):Int)) rfl rfl (by omega) (by rw [show min ((n % 64:Nat):Int).toNat IntKind.u64.bits=n % 64 by show min (n % 64) 64=_;omega,Int.one_mul];rw [show ((2:Int) ^ (n % 64))=((2 ^ (n % 64):Nat):Int) by simp];exact q34 _ hp)) ?_
   refine aq0 7 rfl Y1q (by decide) (fun _=>o_or (r:=((wd (q52 l k) (n / 64) ||| 2 ^ (n % 64):Nat):Int)) rfl rfl (qor _ _ (qdb _ _) hp)) ?_
   refine aqr 8 rfl Y1q (by decide) (fun G hG=>q4k rfl (lk rfl hG) rfl rfl hn4) ?_
   refine aqs 9 rfl Y1q Y15 Y1w (q1k (sz:=1) (v:=.int .u64 _) (r':=eWn (wd (q52 l (k+1)))) rfl rfl rfl rfl rfl rfl rfl rfl (by show _≤4;omega) q57) ?_
   refine Z7d ?_
   refine Z69 ?_
   refine Z52 ?_
   refine ⟨k+1,by omega,⟨by omega,fun i hi=>?_⟩,by rw [hlast];exact Y8,.refl _ _⟩
   rcases Nat.lt_or_eq_of_le (Nat.le_of_lt_succ hi) with h | h
   ·exact hno i h
   ·subst h;exact hokk
 ·have:k=l.length:=by simp at hc;omega
  subst this
  refine Z3v ?_
  refine Z79 ?_
  refine Z7a ?_
  refine Z1 ?_
  rw [qhu hno,show wd (q52 l l.length)=pof l by rw [pof,qbx hno]]
  exact Z7b
theorem qzu {l:List Int} (h:sok l=true):pof l=wd (inl l):=by
 rw [pof,qbx fun i hi=>q6t h hi,qb2]
theorem qbd (l:List Int) (hl:l.length≤9223372036854775807) (H:qf):AC Tryz.prog 74 [.pl (l.map q35)] H (Ret (.bool (sok l)) H):=by
 refine AC.body (N:=11) [.tmp 2] Tryz.func74 rfl rfl rfl (Nat.le_of_ble_eq_true rfl) fun B hB=>?_
 refine Z1o ?_
 refine Z45 ?_
 refine Z7e ?_
 refine Z7h ?_
 refine Z72 ?_
 refine Z79 ?_
 refine Z7i ?_
 refine Z2n ?_
 exact Z1q
theorem qy3 (a b:List Int) (ha:a.length≤9223372036854775807) (hb:b.length≤9223372036854775807) (H:qf):AC Tryz.prog 189 [.pl (a.map q35),.pl (b.map q35)] H (Ret (.tup [.agg (eWn (pof a)),.agg (eWn (pof b)),.bool (sok a&&sok b)]) H):=by
 refine AC.body (N:=27) [.cell 4 166,.cell 5 166,.tmp 6] Tryz.func189 rfl rfl rfl (Nat.le_of_ble_eq_true rfl) fun B hB=>?_
 refine Z2 ?_
 refine Z72 ?_
 refine Z72 ?_
 refine Z1n ?_
 try dsimp only [List.length_nil,put,List.nil_append,List.length_cons,Nat.reduceAdd,List.cons_append]
 refine Z45 ?_
 refine Z7e ?_
 refine Z7h ?_
 refine Z72 ?_
 refine Z79 ?_
 refine Z7j ?_
 refine Z45 ?_
 refine Z7e ?_
 refine Z7h ?_
 refine Z72 ?_
 refine Z79 ?_
 refine Z7j ?_
 have hbel:∀ n:Nat,(AV.tup [.agg (eWn (pof a)),.agg (eWn (pof b)),.bool (sok a&&sok b)]).bel n=true:=by intro n;simp [AV.bel,AV.bels,qiz]
 refine Z1 ?_
 refine qyh mixed none 2 3 ?_
 refine aqr2 0 rfl Y1q (by decide) (fun G hG1 hG2=>q1q rfl (lk rfl hG1) rfl rfl (q6r _)) ?_
 refine aqr2 1 rfl Y1q (by decide) (fun G hG1 hG2=>q1q rfl (lk rfl hG2) rfl rfl (q6r _)) ?_
 refine Z7k ?_
 refine Z7l ?_
 refine q13 (g:=24) rfl (fun hg3=>?_) (fun hg3=>?_)
 ·refine q2l (g:=24) 4 rfl Y1q (by decide) rfl rfl (fun _=>qi (v:=.bool _) rfl) ?_
  refine Z7m ?_
  refine Z7n ?_
  refine Z7o ?_
  refine Z7p ?_
  refine Z7q ?_
  refine Z6a ?_
  rw [hg3] at hbel ⊢
  exact Z7r
 ·refine q15 (g:=24) 4 rfl Y1q (by decide) rfl rfl rfl ?_
  refine Z7s ?_
  refine Z7n ?_
  refine Z7o ?_
  refine Z7p ?_
  refine Z7q ?_
  refine Z6a ?_
  rw [hg3] at hbel ⊢
  exact Z7r
theorem qgy (f:Nat→Bool):((List.range 4).all fun k=>wd f k == 0)=decide (qfr f=[]):=by
 rw [Bool.eq_iff_iff,List.all_eq_true,decide_eq_true_eq,qfr,List.map_eq_nil_iff,List.filter_eq_nil_iff]
 simp only [List.mem_range,beq_iff_eq,qpu]
 constructor
 ·intro h n hn
  have:=h (n / 64) (by omega) (n % 64) (by omega)
  rw [show 64 * (n / 64)+n % 64=n by omega] at this
  simp [this]
 ·intro h k hk j hj
  have:=h (64 * k+j) (by omega)
  simpa using this
theorem q58 {p:Nat→Bool} (k:Nat):(List.range (k+1)).all p=((List.range k).all p&&p k):=by
 rw [List.range_succ,List.all_append];simp
theorem qya (a b:List Int) (ha:a.length≤9223372036854775807) (hb:b.length≤9223372036854775807) (H:qf):AC Tryz.prog 197 [.pl (a.map q35),.pl (b.map q35)] H (Ret (.bool (q33 a b)) H):=by
 refine AC.body (N:=32) [.tmp 4] Tryz.func197 rfl rfl rfl (Nat.le_of_ble_eq_true rfl) fun B hB=>?_
 refine Z1o ?_
 refine Z7t ?_
 refine Z7u ?_
 refine Z7g ?_
 refine Z7f ?_
 refine Z6f ?_
 refine Z72 ?_
 refine Z72 ?_
 refine Z78 ?_
 refine Z79 ?_
 refine Z7v ?_
 refine Z11 ?_
 refine qe ?_
 refine Z1d ?_
 refine qm (G:=Nat) (fun k=>k≤4) (fun k=>[(5,.pt (Lid H.length 0) 0 0 0),(6,.pt (Lid H.length 1) 0 0 0),(7,.bool (sok a&&sok b&&(List.range k).all fun i=>wd (fun n=>q52 a (okn a) n&&!q52 b (okn b) n) i == 0)),(16,.int .i64 (k:Int))]) (fun _=>H++[⟨0,4,[eWn (pof a)]⟩,⟨0,4,[eWn (pof b)]⟩]) (fun k=>4-k) 0 (Nat.zero_le _) (by simp only [List.range_zero,List.all_nil,Bool.and_true];exact Y8) (Fit.refl _ _) ?_
 intro k hk
 refine Z4r ?_
 refine qa rfl (fun hc=>?_) (fun hc=>?_)
 ·have hk4:k<4:=by simp at hc;omega
  have hx:(eWn (pof a))[0+k * 1]?=some (.int .u64 ((wd (q52 a (okn a)) k:Nat):Int)):=by rw [Nat.zero_add,Nat.mul_one];exact q8h _ hk4
  have hy:(eWn (pof b))[0+k * 1]?=some (.int .u64 ((wd (q52 b (okn b)) k:Nat):Int)):=by rw [Nat.zero_add,Nat.mul_one];exact q8h _ hk4
  refine Z1t ?_
  refine q20 7 (.bool (sok a&&sok b&&(List.range (k+1)).all fun i=>wd (fun n=>q52 a (okn a) n&&!q52 b (okn b) n) i == 0)) ?_ ?_
  ·refine Z7w ?_
   refine Z7x ?_
   refine Z7y ?_
   refine Z7z ?_
   refine q13 (g:=20) rfl (fun hg1=>?_) (fun hg1=>?_)
   ·refine Z80 ?_
    refine Z81 ?_
    refine Z82 ?_
    refine Z83 ?_
    refine Z84 ?_
    refine Z85 ?_
    refine q2l (g:=20) 8 rfl Y1q (by decide) rfl rfl (fun _=>qpk (r:=((wd (fun n=>q52 a (okn a) n&&!q52 b (okn b) n) k:Nat):Int)) rfl rfl (qgz _ _ _)) ?_
    refine Z86 ?_
    refine Z87 ?_
    refine Z88 ?_
    exact q1y Y1q Y1b (Out.mk (by (refine congrArg AV.bool ?_;(rw [q58];generalize ((List.range k).all fun i=>wd (fun n=>q52 a (okn a) n&&!q52 b (okn b) n) i == 0)=q at *;generalize wd (fun n=>q52 a (okn a) n&&!q52 b (okn b) n) k=m at *;rw [← Bool.and_assoc];grind))) Yb)
   ·refine Z89 ?_
    refine Z8a ?_
    refine Z8b ?_
    refine Z8c ?_
    refine Z8d ?_
    refine Z8e ?_
    refine Z8f ?_
    refine Z8g ?_
    refine Z8h ?_
    refine Z88 ?_
    exact q1y Y1q Y1b (Out.mk (by (refine congrArg AV.bool ?_;(rw [q58];generalize ((List.range k).all fun i=>wd (fun n=>q52 a (okn a) n&&!q52 b (okn b) n) i == 0)=q at *;generalize wd (fun n=>q52 a (okn a) n&&!q52 b (okn b) n) k=m at *;rw [← Bool.and_assoc];(simp_all;done)))) Yb)
  refine Z52 ?_
  exact ⟨k+1,by omega,by omega,Y8,.refl _ _⟩
 ·have:k=4:=by simp at hc;omega
  subst this
  rw [qgy]
  refine Z2n ?_
  refine Ze ?_
  rw [show (sok a&&sok b&&decide (qfr (fun n=>q52 a (okn a) n&&!q52 b (okn b) n)=[]))=q33 a b by
   unfold q33
   cases h1:sok a with
   | false=>simp
   | true =>
    cases h2:sok b with
    | false=>simp
    | true=>rw [qbx fun i hi=>q6t h1 hi,qbx fun i hi=>q6t h2 hi,qb2,qb2]]
  exact Zb
theorem qu0 (a b:List Int) (ha:a.length≤9223372036854775807) (hb:b.length≤9223372036854775807) (H:qf):AC Tryz.prog 154 [.pl (a.map q35),.pl (b.map q35)] H (Ret (.bool (qk3 a b)) H):=by
 refine AC.body (N:=32) [.tmp 4] Tryz.func154 rfl rfl rfl (Nat.le_of_ble_eq_true rfl) fun B hB=>?_
 refine Z1o ?_
 refine Z7t ?_
 refine Z7u ?_
 refine Z7g ?_
 refine Z7f ?_
 refine Z6f ?_
 refine Z72 ?_
 refine Z72 ?_
 refine Z78 ?_
 refine Z79 ?_
 refine Z7v ?_
 refine Z11 ?_
 refine qe ?_
 refine Z1d ?_
 refine qm (G:=Nat) (fun k=>k≤4) (fun k=>[(5,.pt (Lid H.length 0) 0 0 0),(6,.pt (Lid H.length 1) 0 0 0),(7,.bool (sok a&&sok b&&(List.range k).all fun i=>wd (fun n=>q52 a (okn a) n&&q52 b (okn b) n) i == 0)),(16,.int .i64 (k:Int))]) (fun _=>H++[⟨0,4,[eWn (pof a)]⟩,⟨0,4,[eWn (pof b)]⟩]) (fun k=>4-k) 0 (Nat.zero_le _) (by simp only [List.range_zero,List.all_nil,Bool.and_true];exact Y8) (Fit.refl _ _) ?_
 intro k hk
 refine Z4r ?_
 refine qa rfl (fun hc=>?_) (fun hc=>?_)
 ·have hk4:k<4:=by simp at hc;omega
  have hx:(eWn (pof a))[0+k * 1]?=some (.int .u64 ((wd (q52 a (okn a)) k:Nat):Int)):=by rw [Nat.zero_add,Nat.mul_one];exact q8h _ hk4
  have hy:(eWn (pof b))[0+k * 1]?=some (.int .u64 ((wd (q52 b (okn b)) k:Nat):Int)):=by rw [Nat.zero_add,Nat.mul_one];exact q8h _ hk4
  refine Z1t ?_
  refine q20 7 (.bool (sok a&&sok b&&(List.range (k+1)).all fun i=>wd (fun n=>q52 a (okn a) n&&q52 b (okn b) n) i == 0)) ?_ ?_
  ·refine Z7w ?_
   refine Z7x ?_
   refine Z7y ?_
   refine Z7z ?_
   refine q13 (g:=20) rfl (fun hg1=>?_) (fun hg1=>?_)
   ·refine Z80 ?_
    refine Z81 ?_
    refine Z82 ?_
    refine Z83 ?_
    refine Z84 ?_
    refine Z85 ?_
    refine q2l (g:=20) 8 rfl Y1q (by decide) rfl rfl (fun _=>qw8 (r:=((wd (fun n=>q52 a (okn a) n&&q52 b (okn b) n) k:Nat):Int)) rfl rfl (by rw [qig _ _ (qdb _ _) (qdb _ _),qzs])) ?_
    refine Z86 ?_
    refine Z87 ?_
    refine Z88 ?_
    exact q1y Y1q Y1b (Out.mk (by (refine congrArg AV.bool ?_;(rw [q58];generalize ((List.range k).all fun i=>wd (fun n=>q52 a (okn a) n&&q52 b (okn b) n) i == 0)=q at *;generalize wd (fun n=>q52 a (okn a) n&&q52 b (okn b) n) k=m at *;rw [← Bool.and_assoc];grind))) Yb)
   ·refine Z89 ?_
    refine Z8a ?_
    refine Z8b ?_
    refine Z8c ?_
    refine Z8d ?_
    refine Z8e ?_
    refine Z8f ?_
    refine Z8g ?_
    refine Z8h ?_
    refine Z88 ?_
    exact q1y Y1q Y1b (Out.mk (by (refine congrArg AV.bool ?_;(rw [q58];generalize ((List.range k).all fun i=>wd (fun n=>q52 a (okn a) n&&q52 b (okn b) n) i == 0)=q at *;generalize wd (fun n=>q52 a (okn a) n&&q52 b (okn b) n) k=m at *;rw [← Bool.and_assoc];(simp_all;done)))) Yb)
  refine Z52 ?_
  exact ⟨k+1,by omega,by omega,Y8,.refl _ _⟩
 ·have:k=4:=by simp at hc;omega
  subst this
  rw [qgy]
  refine Z2n ?_
  refine Ze ?_
  rw [show (sok a&&sok b&&decide (qfr (fun n=>q52 a (okn a) n&&q52 b (okn b) n)=[]))=qk3 a b by
   unfold qk3
   cases h1:sok a with
   | false=>simp
   | true =>
    cases h2:sok b with
    | false=>simp
    | true=>rw [qbx fun i hi=>q6t h1 hi,qbx fun i hi=>q6t h2 hi,qb2,qb2]]
  exact Zb
structure LS where
 acc:List Int
 x:Nat
set_option maxHeartbeats 0 in
theorem qpr (f:Nat→Bool) (H:qf):ACT Tryz.prog KD 246 [.agg (eWn (wd f))] H (Ret (.pl ((qfr f).map q35)) H):=by
 have hbel:∀ (n:Nat) (g m:Nat) (l:List Int),∀ o∈[AObj.mk 0 4 [eWn (wd f)],AObj.mk g 1 (l.map q35)],∀ r∈o.rows,AV.bels n r=true:=by
  intro n g m l o ho r hr
  simp only [List.mem_cons,List.not_mem_nil,or_false] at ho
  rcases ho with rfl | rfl
  ·simp only [List.mem_singleton] at hr;subst hr;exact qiz _ _
  ·exact q3a _ _ r hr
 refine ACT.body (N:=27) [.tmp 2] Tryz.func246 rfl rfl rfl (Nat.le_of_ble_eq_true rfl) fun B hB=>?_
 refine Z2 ?_
 refine ao2 Y1k (q8z (sz:=4) (v:=.agg _) rfl rfl rfl (q6r _) (by decide) rfl) ?_
 refine Z8i ?_
 refine Z2v ?_
 refine Z49 ?_
 refine q1s (k:=1) 3 1 rfl (by decide) rfl ?_
 refine q18 ?_
 refine Z8j ?_
 refine Z4n ?_
 refine Z8k ?_
 refine Z1d ?_
 refine qm (G:=Nat) (fun i=>i≤4) (fun i=>[(KT,KD.av),(3,.sl (Lid H.length 1) (qrb f i).length 0 (qrb f i).length (qrb f i).length),(6,.agg (eWn (wd f))),(7,.int .i64 (i:Int))]) (fun i=>H++[⟨0,4,[eWn (wd f)]⟩,⟨(qrb f i).length,1,(qrb f i).map q35⟩]) (fun i=>4-i) 0 (Nat.zero_le _) Y8 (Fit.refl _ _) ?_
 intro i hi
 refine Z4r ?_
 refine qa rfl (fun hc=>?_) (fun hc=>?_)
 ·have hi4:i<4:=by simp at hc;omega
  have hcell:(eWn (wd f))[((i:Nat):Int).toNat * 1]?=some (.int .u64 ((wd f i:Nat):Int)):=by show (eWn (wd f))[i * 1]?=_;rw [Nat.mul_one];exact q8h _ hi4
  have hstep:=qsn f i
  have hslen:=qoe f (i+1)
  refine Z11 ?_
  refine ao1 (by decide) (qx6 (sz:=1) (v:=.int .u64 _) rfl rfl (by omega) (by omega) hcell) ?_
  refine Z3 ?_
  refine Z8l ?_
  refine qm (G:=LS) (fun s=>s.x<18446744073709551616∧s.acc++(bl s.x).map (fun j:Nat=>((64 * i+j:Nat):Int))=qrb f (i+1)) (fun s=>[(KT,KD.av),(3,.sl (Lid H.length 1) s.acc.length 0 s.acc.length s.acc.length),(4,.int .i64 (i:Int)),(5,.int .u64 (s.x:Int)),(6,.agg (eWn (wd f))),(7,.int .i64 (i:Int))]) (fun s=>H++[⟨0,4,[eWn (wd f)]⟩,⟨s.acc.length,1,s.acc.map q35⟩]) (fun s=>s.x) ⟨qrb f i,wd f i⟩ ⟨qdb f i,hstep.symm⟩ Y8 (Fit.refl _ _) ?_
  rintro ⟨acc,x⟩ ⟨hx64,hacc⟩
  simp only at hx64 hacc ⊢
  have hal:acc.length≤256:=by
   have:=congrArg List.length hacc
   rw [List.length_append] at this
   omega
  refine Z8m ?_
  refine qa rfl (fun hc=>?_) (fun hc=>?_)
  ·have hx0:x≠0:=by simp at hc;omega
   have hb:=q10c hx0 hx64
   have hlt:=qmo hx0
   obtain ⟨hk,_⟩:=qsp hx0 hx64
   refine Z8p ?_
   refine ao1 (by decide) (qfu (r:=((64 * i:Nat):Int)) rfl rfl (by rw [show (64:Int) * (i:Int)=((64 * i:Nat):Int) by omega];exact qc (by omega) (by omega))) ?_
   refine Z8 ?_
   refine ao2 Y1k (V2.callT (q10n x hx64 _) rfl rfl) ?_
   refine ao1 (by decide) (q1x (r:=((64 * i+Lib.ctz 64 x:Nat):Int)) rfl rfl (by rw [show ((64 * i:Nat):Int)+((Lib.ctz 64 x:Nat):Int)=((64 * i+Lib.ctz 64 x:Nat):Int) by omega];exact qc (by omega) (by omega))) ?_
   refine Z8q ?_
   refine Z8u ?_
   rw [show (acc.map q35).take acc.length=acc.map q35 from List.take_of_length_le (by simp)]
   refine Z2k ?_
   refine ao1 (by decide) (q30 (r:=((x-1:Nat):Int)) rfl rfl (qxe x hx0 hx64)) ?_
   refine ao1 (by decide) (qw8 (r:=((x &&& (x-1):Nat):Int)) rfl rfl (qig _ _ hx64 (by omega))) ?_
   refine Za ?_
   refine ⟨⟨acc++[((64 * i+Lib.ctz 64 x:Nat):Int)],x &&& (x-1)⟩,hlt,⟨by simp only;omega,?_⟩,by simp only [List.length_append,List.length_cons,List.length_nil];exact Y8,Fit.loc hB (by simp only [List.length_append,List.length_cons,List.length_nil,List.map_append,List.map_cons,List.map_nil];rfl) Y1 (hbel _ _ 0 _)⟩
   simp only
   rw [← hacc,hb,List.map_cons,List.append_assoc]
   rfl
  ·have hx0:x=0:=by simp at hc;omega
   subst hx0
   rw [q11a,List.map_nil,List.append_nil] at hacc
   subst hacc
   refine Z52 ?_
   exact ⟨i+1,by omega,by omega,Y8,Fit.refl _ _⟩
 ·have:i=4:=by simp at hc;omega
  subst this
  rw [qt1]
  refine Z8w ?_
  refine qp (ys:=(qfr f).map q35) 2 rfl rfl rfl rfl Ym (by simp) (q3a 0 _) ?_
  exact Z8x
theorem qpq (f g:Nat→Bool) (k:Nat) (H:qf):AC Tryz.prog 260 [.int .u64 (wd f k:Int),.int .u64 (wd g k:Int)] H (Ret (.int .u64 ((wd (fun n=>f n||g n) k:Nat):Int)) H):=by
 refine AC.body (N:=8) [.tmp 4] Tryz.func260 rfl rfl rfl (Nat.le_of_ble_eq_true rfl) fun B hB=>?_
 refine Z5 ?_
 refine Z2k ?_
 refine ao1 (by decide) (o_or (r:=((wd (fun n=>f n||g n) k:Nat):Int)) rfl rfl (by rw [qor _ _ (qdb _ _) (qdb _ _),q14j])) ?_
 exact Zc
theorem qr9 (f g:Nat→Bool) (k:Nat) (H:qf):AC Tryz.prog 271 [.int .u64 (wd f k:Int),.int .u64 (wd g k:Int)] H (Ret (.int .u64 ((wd (fun n=>f n&&!g n) k:Nat):Int)) H):=by
 refine AC.body (N:=8) [.tmp 4] Tryz.func271 rfl rfl rfl (Nat.le_of_ble_eq_true rfl) fun B hB=>?_
 refine Z5 ?_
 refine Z2k ?_
 refine ao1 (by decide) (qpk (r:=((wd (fun n=>f n&&!g n) k:Nat):Int)) rfl rfl (qgz _ _ _)) ?_
 exact Zc
set_option maxHeartbeats 0 in
theorem qnc (g:Nat) [FnI Tryz.prog g] (op:Bool→Bool→Bool) (hdo:∀ (f h:Nat→Bool) (k:Nat) (H:qf),AC Tryz.prog g [.int .u64 (wd f k:Int),.int .u64 (wd h k:Int)] H (Ret (.int .u64 ((wd (fun n=>op (f n) (h n)) k:Nat):Int)) H))
  (a b:List Int) (ha:a.length≤9223372036854775807) (hb:b.length≤9223372036854775807) (H:qf):ACT Tryz.prog KD 223 [.pl (a.map q35),.pl (b.map q35),.fn (.func g) [] []] H (Ret (.pl ((q8b op a b).map q35)) H):=by
 refine ACT.body (N:=36) [.tmp 6] Tryz.func223 rfl rfl rfl (Nat.le_of_ble_eq_true rfl) fun B hB=>?_
 refine Z8y ?_
 refine Z7u ?_
 refine Z7g ?_
 refine Z7f ?_
 refine Z6f ?_
 refine Z72 ?_
 refine Z72 ?_
 refine Z78 ?_
 refine Z79 ?_
 refine Z7v ?_
 refine Z6l ?_
 refine qa rfl (fun hc=>?_) (fun hc=>?_)
 ·have hs:(sok a&&sok b)=false:=by cases h:(sok a&&sok b)<;>simp_all
  refine Z49 ?_
  refine q23 6 rfl ?_
  refine q2z ?_
  rw [show q8b op a b=[] by rw [q8b,hs];rfl]
  exact Zb
 have hs:sok a=true∧sok b=true:=by simpa using hc
 rw [show q8b op a b=qfr (fun n=>op (inl a n) (inl b n)) by rw [q8b,hs.1,hs.2];rfl,qzu hs.1,qzu hs.2]
 refine Z11 ?_
 refine qe ?_
 refine Z1d ?_
 refine qm (G:=Nat) (fun k=>k≤4) (fun k=>[(KT,KD.av),(2,.fn (.func g) [] []),(7,.pt (Lid H.length 0) 0 0 0),(8,.pt (Lid H.length 1) 0 0 0),(20,.int .i64 (k:Int))]) (fun k=>H++[⟨0,4,[eWn (fun j=>if j<k then wd (fun n=>op (inl a n) (inl b n)) j else wd (inl a) j)]⟩,⟨0,4,[eWn (wd (inl b))]⟩]) (fun k=>4-k) 0 (Nat.zero_le _) Y8 (.inl (by simp)) ?_
 intro k hk
 refine Z4r ?_
 refine qa rfl (fun hc=>?_) (fun hc=>?_)
 ·have hk4:k<4:=by simp at hc;omega
  have hx:(eWn (fun j=>if j<k then wd (fun n=>op (inl a n) (inl b n)) j else wd (inl a) j))[0+k * 1]?=some (.int .u64 ((wd (inl a) k:Nat):Int)):=by
   rw [Nat.zero_add,Nat.mul_one,q8h _ hk4];simp
  have hy:(eWn (wd (inl b)))[0+k * 1]?=some (.int .u64 ((wd (inl b) k:Nat):Int)):=by rw [Nat.zero_add,Nat.mul_one];exact q8h _ hk4
  have q57:(eWn (fun j=>if j<k then wd (fun n=>op (inl a n) (inl b n)) j else wd (inl a) j)).take (0+k * 1)++[AV.int .u64 ((wd (fun n=>op (inl a n) (inl b n)) k:Nat):Int)]++(eWn (fun j=>if j<k then wd (fun n=>op (inl a n) (inl b n)) j else wd (inl a) j)).drop (0+k * 1+1)=eWn (fun j=>if j<k+1 then wd (fun n=>op (inl a n) (inl b n)) j else wd (inl a) j):=by
   rw [Nat.zero_add,Nat.mul_one,qt6 _ hk4]
   refine qev fun j _=>?_
   by_cases e:j=k
   ·subst e;simp
   ·rw [if_neg e]
    by_cases e2:j<k
    ·rw [if_pos e2,if_pos (by omega)]
    ·rw [if_neg e2,if_neg (by omega)]
  refine Z1t ?_
  refine q3i mixed (some 10) 2 ?_
  refine Z7x ?_
  refine Z7c ?_
  refine aq0 1 rfl Y1q (by decide) (fun _=>qi (v:=.fn _ _ _) rfl) ?_
  refine Z8z ?_
  refine aqp 3 rfl Y1q (by decide) (fun G=>q4k rfl (lk rfl rfl) rfl rfl hk4) ?_
  refine aqp 4 rfl Y1q (by decide) (fun G=>qh (v:=.int .u64 _) rfl (lk rfl rfl) rfl rfl hx) ?_
  refine Z1l ?_
  refine aqp 6 rfl Y1q (by decide) (fun G=>q4k rfl (lk rfl rfl) rfl rfl hk4) ?_
  refine aqp 7 rfl Y1q (by decide) (fun G=>qh (v:=.int .u64 _) rfl (lk rfl rfl) rfl rfl hy) ?_
  refine q9b 8 rfl Y1q (by decide) (fun _=>V2.callv (hdo (inl a) (inl b) k _) rfl rfl) ?_
  refine aqp 9 rfl Y1q (by decide) (fun G=>q4k rfl (lk rfl rfl) rfl rfl hk4) ?_
  refine aqs 10 rfl Y1q Y1b Y1w (q1k (sz:=1) (v:=.int .u64 _) (r':=eWn (fun j=>if j<k+1 then wd (fun n=>op (inl a n) (inl b n)) j else wd (inl a) j)) rfl rfl rfl rfl rfl rfl rfl rfl (by show _≤4;omega) q57) ?_
  refine Z7d ?_
  refine Z7a ?_
  refine Z52 ?_
  exact ⟨k+1,by omega,by omega,Y8,.refl _ _⟩
 ·have:k=4:=by simp at hc;omega
  subst this
  rw [show eWn (fun j=>if j<4 then wd (fun n=>op (inl a n) (inl b n)) j else wd (inl a) j)=eWn (wd fun n=>op (inl a n) (inl b n)) from qev fun j hj=>if_pos hj]
  refine Z2 ?_
  refine Z8j ?_
  refine ao2 Y1k (V2.callT (qpr (fun n=>op (inl a n) (inl b n)) _) rfl rfl) ?_
  exact Z4e
theorem qj1 (a b:List Int) (ha:a.length≤9223372036854775807) (hb:b.length≤9223372036854775807) (H:qf):ACT Tryz.prog KD 251 [.pl (a.map q35),.pl (b.map q35)] H (Ret (.pl ((q8b (·||·) a b).map q35)) H):=by
 refine ACT.body (N:=8) [.tmp 4] Tryz.func251 rfl rfl rfl (Nat.le_of_ble_eq_true rfl) fun B hB=>?_
 refine Z8y ?_
 refine ao2 Y1k (V2.callT (qnc 260 (·||·) (fun f h k H=>qpq f h k H) a b ha hb _) rfl rfl) ?_
 exact Z4e
theorem qwx (a b:List Int) (ha:a.length≤9223372036854775807) (hb:b.length≤9223372036854775807) (H:qf):ACT Tryz.prog KD 265 [.pl (a.map q35),.pl (b.map q35)] H (Ret (.pl ((q8b (fun x y=>x&&!y) a b).map q35)) H):=by
 refine ACT.body (N:=8) [.tmp 4] Tryz.func265 rfl rfl rfl (Nat.le_of_ble_eq_true rfl) fun B hB=>?_
 refine Z8y ?_
 refine ao2 Y1k (V2.callT (qnc 271 (fun x y=>x&&!y) (fun f h k H=>qr9 f h k H) a b ha hb _) rfl rfl) ?_
 exact Z4e
theorem qx8 {l:List Int} {k:Nat} {x:Int} {n:Nat} (hx:l[k]?=some x) (hno:inl (l.take k) n=false):inl (l.take (k+1)) n=(x == (n:Int)):=by
 rw [inl,ql hx,List.any_append,show (l.take k).any (fun y=>y == (n:Int))=inl (l.take k) n from rfl,hno];simp
theorem qyj (l:List Int) (n:Nat) (hl:l.length≤9223372036854775807) (H:qf):AC Tryz.prog 121 [.pl (l.map q35),.int .i64 (n:Int)] H (Ret (.bool (inl l n)) H):=by
 refine AC.body (N:=18) [.tmp 4] Tryz.func121 rfl rfl rfl (Nat.le_of_ble_eq_true rfl) fun B hB=>?_
 refine Z1o ?_
 refine Z1e ?_
 refine qm (G:=Nat) (fun k=>k≤l.length∧inl (l.take k) n=false) (fun k=>[(0,.pl (l.map q35)),(1,.int .i64 (n:Int)),(5,.int .i64 (k:Int))]) (fun _=>H++[]) (fun k=>l.length-k) 0 ⟨Nat.zero_le _,rfl⟩ Y8 (Fit.refl _ _) ?_
 rintro k ⟨hk,hno⟩
 refine Z11 ?_
 refine Z6t ?_
 refine Z1f ?_
 refine qa rfl (fun hc=>?_) (fun hc=>?_)
 ·have hlt:k<l.length:=by simpa using hc
  obtain ⟨x,hx,hxl⟩:=qr hlt
  have hr:=qk q35 hx
  have hst:=qx8 hx hno
  refine Z90 ?_
  refine Z4u ?_
  refine Z8 ?_
  refine Z16 ?_
  refine qa rfl (fun hc=>?_) (fun hc=>?_)
  ·refine Zf ?_
   rw [show inl l n=true from List.any_eq_true.2 ⟨x,hxl,hc⟩]
   exact Zb
  ·refine Z2h ?_
   exact ⟨k+1,by omega,⟨by omega,by rw [hst];exact hc⟩,Y8,.refl _ _⟩
 ·have:k=l.length:=by simp at hc;omega
  subst this
  rw [List.take_length] at hno
  rw [hno]
  exact Z53
set_option maxHeartbeats 0 in
theorem qf6 (l:List Int) (hl:l.length≤9223372036854775807) (H:qf):AC Tryz.prog 80 [.pl (l.map q35)] H (Ret (.bool (sok l)) H):=by
 refine AC.body (N:=38) [.tmp 2] Tryz.func80 rfl rfl rfl (Nat.le_of_ble_eq_true rfl) fun B hB=>?_
 refine Z1o ?_
 refine Z1e ?_
 refine qm (G:=Nat) (fun k=>k≤l.length∧∀ i,i<k→okB l i=true) (fun k=>[(0,.pl (l.map q35)),(3,.int .i64 (k:Int))]) (fun _=>H++[]) (fun k=>l.length-k) 0 ⟨Nat.zero_le _,fun i hi=>by omega⟩ Y8 (Fit.refl _ _) ?_
 rintro k ⟨hk,hno⟩
 refine Z11 ?_
 refine Z6t ?_
 refine Z1f ?_
 refine qa rfl (fun hc=>?_) (fun hc=>?_)
 ·have hlt:k<l.length:=by simpa using hc
  obtain ⟨x,hx,hxl⟩:=qr hlt
  have hr:=qk q35 hx
  obtain ⟨m,hm,_⟩:=qr (l:=l) (k:=((k:Int)-1).toNat) (by omega)
  have hr1:=qk q35 hm
  have hnd:okB l k=(decide (0≤x)&&decide (x<256)&&(decide (k=0)||decide (m<x))):=by
   rw [qcn hx]
   cases k with
   | zero=>simp
   | succ k =>
    have e:(((k+1:Nat):Int)-1).toNat=k:=by omega
    rw [e] at hm
    simp [hm]
  clear hxl
  refine Z1 ?_
  refine q20 37 (.bool (!okB l k)) ?_ ?_
  ·refine Z1g ?_
   refine Z6v ?_
   refine Z1i ?_
   refine Z6w ?_
   refine Z6x ?_
   refine aq0 4 rfl Y1q (by decide) (fun _=>qwh rfl rfl) ?_
   refine aq0 5 rfl Y1q (by decide) (fun _=>qi (v:=.bool _) rfl) ?_
   refine q13 (g:=15) rfl (fun hg5=>?_) (fun hg5=>?_)
   ·refine q15 (g:=15) 6 rfl Y1q (by decide) rfl rfl rfl ?_
    refine q15 (g:=15) 7 rfl Y1q (by decide) rfl rfl rfl ?_
    refine q15 (g:=15) 8 rfl Y1q (by decide) rfl rfl rfl ?_
    refine q15 (g:=15) 9 rfl Y1q (by decide) rfl rfl rfl ?_
    refine q15 (g:=15) 10 rfl Y1q (by decide) rfl rfl rfl ?_
    refine aq0 11 rfl Y1q (by decide) (fun _=>q1n (v:=.bool _) rfl rfl) ?_
    refine Z91 ?_
    refine Z92 ?_
    refine Z93 ?_
    refine Z94 ?_
    refine Z95 ?_
    refine Z96 ?_
    refine Z97 ?_
    refine Z98 ?_
    refine Z99 ?_
    refine Z9a ?_
    refine Z9b ?_
    refine Z9c ?_
    refine Z9d ?_
    refine Z9e ?_
    refine Z9f ?_
    refine Z9g ?_
    exact Z9h
   ·refine q2l (g:=15) 6 rfl Y1q (by decide) rfl rfl (fun _=>qi (v:=.pl _) rfl) ?_
    refine q2l (g:=15) 7 rfl Y1q (by decide) rfl rfl (fun _=>qi (v:=.int _ _) rfl) ?_
    refine q31 (g:=15) 8 rfl Y1q (by decide) rfl rfl (fun G=>q16 rfl rfl hr rfl) ?_
    refine q31 (g:=15) 9 rfl Y1q (by decide) rfl rfl (fun G=>q29 (v:=.int _ _) rfl hr rfl) ?_
    refine q2l (g:=15) 10 rfl Y1q (by decide) rfl rfl (fun _=>qwm rfl rfl) ?_
    refine aq0 11 rfl Y1q (by decide) (fun _=>q1m (v:=.bool _) rfl rfl) ?_
    refine Z91 ?_
    refine q13 (g:=22) rfl (fun hg12=>?_) (fun hg12=>?_)
    ·refine Z92 ?_
     refine Z93 ?_
     refine Z94 ?_
     refine Z95 ?_
     refine Z96 ?_
     refine Z97 ?_
     refine Z98 ?_
     refine Z99 ?_
     refine Z9a ?_
     refine Z9b ?_
     refine Z9c ?_
     refine Z9d ?_
     refine Z9e ?_
     refine Z9f ?_
     refine Z9g ?_
     exact Z9h
    ·refine q2l (g:=22) 13 rfl Y1q (by decide) rfl rfl (fun _=>qi (v:=.int _ _) rfl) ?_
     refine q2l (g:=22) 14 rfl Y1q (by decide) rfl rfl (fun _=>qwm rfl rfl) ?_
     refine q2l (g:=22) 15 rfl Y1q (by decide) rfl rfl (fun _=>qi (v:=.bool _) rfl) ?_
     refine q13 (g:=25) rfl (fun hg15=>?_) (fun hg15=>?_)
     ·refine q2l (g:=25) 16 rfl Y1q (by decide) rfl rfl (fun _=>qi (v:=.pl _) rfl) ?_
      refine q2l (g:=25) 17 rfl Y1q (by decide) rfl rfl (fun _=>qi (v:=.int _ _) rfl) ?_
      refine q31 (g:=25) 18 rfl Y1q (by decide) rfl rfl (fun G=>q16 rfl rfl hr rfl) ?_
      refine q31 (g:=25) 19 rfl Y1q (by decide) rfl rfl (fun G=>q29 (v:=.int _ _) rfl hr rfl) ?_
      refine q2l (g:=25) 20 rfl Y1q (by decide) rfl rfl (fun _=>qi (v:=.pl _) rfl) ?_
      refine q2l (g:=25) 21 rfl Y1q (by decide) rfl rfl (fun _=>qi (v:=.int _ _) rfl) ?_
      refine q2l (g:=25) 22 rfl Y1q (by decide) rfl rfl (fun _=>q30 (r:=(k:Int)-1) rfl rfl (qc (by omega) (by omega))) ?_
      refine q31 (g:=25) 23 rfl Y1q (by decide) rfl rfl (fun G=>q4n rfl rfl (by simp at hg15;omega) hr1 rfl) ?_
      refine q31 (g:=25) 24 rfl Y1q (by decide) rfl rfl (fun G=>q29 (v:=.int _ _) rfl hr1 rfl) ?_
      refine q2l (g:=25) 25 rfl Y1q (by decide) rfl rfl (fun _=>o_le rfl rfl) ?_
      refine q2l (g:=22) 26 rfl Y1q (by decide) rfl rfl (fun _=>q1n (v:=.bool _) rfl rfl) ?_
      refine Z9i ?_
      exact Z9h
     ·refine Z9j ?_
      refine q15 (g:=25) 17 rfl Y1q (by decide) rfl rfl rfl ?_
      refine Z9k ?_
      refine q15 (g:=25) 19 rfl Y1q (by decide) rfl rfl rfl ?_
      refine q15 (g:=25) 20 rfl Y1q (by decide) rfl rfl rfl ?_
      refine q15 (g:=25) 21 rfl Y1q (by decide) rfl rfl rfl ?_
      refine q15 (g:=25) 22 rfl Y1q (by decide) rfl rfl rfl ?_
      refine q15 (g:=25) 23 rfl Y1q (by decide) rfl rfl rfl ?_
      refine q15 (g:=25) 24 rfl Y1q (by decide) rfl rfl rfl ?_
      refine q15 (g:=25) 25 rfl Y1q (by decide) rfl rfl rfl ?_
      refine q2l (g:=22) 26 rfl Y1q (by decide) rfl rfl (fun _=>q1m (v:=.bool _) rfl rfl) ?_
      refine Z9i ?_
      exact Z9h
  refine Z1 ?_
  refine qa rfl (fun hc=>?_) (fun hc=>?_)
  ·refine Zf ?_
   rw [qkk hlt Y1t]
   exact Zb
  ·refine Z2h ?_
   refine ⟨k+1,by omega,⟨by omega,fun i hi=>?_⟩,Y8,.refl _ _⟩
   rcases Nat.lt_or_eq_of_le (Nat.le_of_lt_succ hi) with h | h
   ·exact hno i h
   ·subst h;simpa using hc
 ·have:k=l.length:=by simp at hc;omega
  subst this
  rw [qhu hno]
  exact Z53
def setP (f:Nat→Bool) (n:Nat):List Int:=((List.range n).filter f).map fun j:Nat=>(j:Int)
theorem qpo (f g:Nat→Bool) (k:Nat) (H:qf):AC Tryz.prog 224 [.int .u64 (wd f k:Int),.int .u64 (wd g k:Int)] H (Ret (.int .u64 ((wd (fun n=>f n&&g n) k:Nat):Int)) H):=by
 refine AC.body (N:=8) [.tmp 4] Tryz.func224 rfl rfl rfl (Nat.le_of_ble_eq_true rfl) fun B hB=>?_
 refine Z5 ?_
 refine Z2k ?_
 refine ao1 (by decide) (qw8 (r:=((wd (fun n=>f n&&g n) k:Nat):Int)) rfl rfl (by rw [qig _ _ (qdb _ _) (qdb _ _),qzs])) ?_
 exact Zc
theorem qol (a b:List Int) (ha:a.length≤9223372036854775807) (hb:b.length≤9223372036854775807) (H:qf):ACT Tryz.prog KD 194 [.pl (a.map q35),.pl (b.map q35)] H (Ret (.pl ((q8b (·&&·) a b).map q35)) H):=by
 refine ACT.body (N:=8) [.tmp 4] Tryz.func194 rfl rfl rfl (Nat.le_of_ble_eq_true rfl) fun B hB=>?_
 refine Z8y ?_
 refine ao2 Y1k (V2.callT (qnc 224 (·&&·) (fun f h k H=>qpo f h k H) a b ha hb _) rfl rfl) ?_
 exact Z4e
theorem qqy (k u:Int) (H:qf):AC Tryz.prog 105 [.int .i64 k,.int .i64 u] H (Ret (.bool (qcm k u)) H):=by
 refine AC.body (N:=23) [.tmp 4] Tryz.func105 rfl rfl rfl (Nat.le_of_ble_eq_true rfl) fun B hB=>?_
 refine Z1o ?_
 refine Z11 ?_
 refine qe ?_
 refine Z5a ?_
 refine qa rfl (fun hc=>?_) (fun hc=>?_)
 ·have h1:k=1:=by simpa using hc
  refine Z11 ?_
  refine Z13 ?_
  rw [show qcm k u=(u == 0) by simp [qcm,h1];rfl]
  exact Zb
 have h1:¬ k=1:=by simpa using hc
 refine Z5a ?_
 refine qa rfl (fun hc=>?_) (fun hc=>?_)
 ·have h2:k=2:=by simpa using hc
  refine Z1 ?_
  refine qq 4 (.bool (qcm k u)) ?_ ?_
  ·refine Z5q ?_
   refine qb rfl rfl (fun hg2=>?_) (fun hg2=>?_)
   ·refine Z3b ?_
    refine Zn ?_
    exact qe (Out.mk (by (refine congrArg AV.bool ?_;(simp only [qcm] at *;(simp_all;done)))) Yb)
   ·refine Z5r ?_
    refine Z3h ?_
    exact qe (Out.mk (by (refine congrArg AV.bool ?_;(simp only [qcm] at *;grind))) Yb)
  exact Z20
 have h2:¬ k=2:=by simpa using hc
 refine Z2 ?_
 refine Z9l ?_
 refine Z9m ?_
 refine q2x ([(1,.int .i64 u),(18,.bool (decide (k=3)||decide (k=4)))]) (H++[]) ?_ ?_
 ·refine Z1 ?_
  refine qa rfl (fun hc=>?_) (fun hc=>?_)
  ·have h3:k=3:=by simpa using hc
   refine Z1 ?_
   refine q1u ?_ (.inl rfl)
   rw [show (decide (k=3)||decide (k=4))=(k == 3) by simp [h3]]
   exact Y8
  ·have h3:¬ k=3:=by simpa using hc
   refine Z9n ?_
   refine q1u ?_ (.inl rfl)
   rw [show (decide (k=3)||decide (k=4))=(k == 4) by simp [h3];rfl]
   exact Y8
 refine Z1 ?_
 refine qa rfl (fun hc=>?_) (fun hc=>?_)
 ·have h3:k=3∨k=4:=by simpa using hc
  refine Z11 ?_
  refine Z13 ?_
  rw [show qcm k u=(u == 2) by simp only [qcm];rw [Bool.eq_iff_iff];simp;omega]
  exact Zb
 ·have h3:¬ (k=3∨k=4):=by simpa using hc
  refine Zf ?_
  rw [show qcm k u=false by simp only [qcm];rw [Bool.eq_false_iff];simp;omega]
  exact Zb
def qfj (t:Thing):List Value:=[.int .i64 t.kind,.int .i64 t.up,.string t.tag]
theorem qfi (a b:Thing) (w:World):(Op.equalIn 10000 74 (.agg (qfj a).toArray) (.agg (qfj b).toArray)).run Tryz.prog w = .ok (decide (a=b)) w:=by
 have hS:Tryz.prog.underlying 74=some (.struct (Tryz.prog.fieldsOf 74)):=by kernel_rfl
 have hp:Tryz.prog.stoodInHeld 74=false:=by kernel_rfl
 rw [show (10000:Nat)=9999+1 from rfl,run_equalIn_agg w 9999 74 _ _ hS hp]
 have u3:=Tryz.underlying3
 have a3:=Tryz.isAgg3
 have z3:=Tryz.sizeOf3
 simp only [qfj,Program.fieldsOf,Tryz.underlying74]
 go_simp
 have ht:a.tag.toList=b.tag.toList↔a.tag=b.tag:=by have:=qo5 a.tag b.tag;rw [Bool.eq_iff_iff] at this;simpa using this
 simp only [ht]
 cases a;cases b
 simp only [Thing.mk.injEq]
 (repeat' split)<;>simp_all
theorem qgp (g:List Thing):∀ r∈g.map qw,r.length=3:=q5a (e:=qw) (n:=3) (fun _=>rfl) g
theorem qrc (n:Nat) (g:List Thing):∀ r∈g.map qw,AV.bels n r=true:=q5z (e:=qw) (fun _=>rfl) g
theorem qze {g:List Thing} {i:Nat} {t:Thing} (h:g[i+1]?=some t):qm3 g i=(decide (0≤t.up)&&decide (t.up≤(i:Int))&&qcm t.kind (q4f g t.up.toNat)&&q9g t.tag&&(decide (t.tag=⟨#[]⟩)||decide (t.kind=2))):=by rw [qm3,h]
theorem qnn (t0:Thing) (g1:List Thing):q2g (t0 :: g1)=(decide (g1.length+1≤256)&&decide (t0=qcv)&&qmm (qm3 (t0 :: g1)) g1.length):=by
 simp [q2g]
set_option maxHeartbeats 0 in
theorem qa8 (g:List Thing) (H:qf) (hl:g.length≤9223372036854775807):AC Tryz.prog 59 [.pl (g.map qw)] H (Ret (.bool (q2g g)) H):=by
 refine AC.body (N:=66) [.tmp 2] Tryz.func59 rfl rfl rfl (Nat.le_of_ble_eq_true rfl) fun B hB=>?_
 refine Z1o ?_
 cases g with
 | nil =>
  refine Z1 ?_
  refine qq 19 (.bool true) ?_ ?_
  ·refine Z6t ?_
   refine Zv ?_
   refine qb rfl rfl (fun hg3=>?_) (fun hg3=>?_)
   ·refine Z3d ?_
    refine Z3b ?_
    refine Z3n ?_
    exact Z10
   ·exfalso;simp at hg3
  refine Z1 ?_
  refine qa rfl (fun hc=>?_) (fun hc=>?_)
  ·exact Z53
  ·simp at hc
 | cons t0 g1 =>
  have hr:((t0 :: g1).map qw)[(0:Int).toNat]?=some (qw t0):=rfl
  refine Z1 ?_
  refine qq 19 (.bool (!(decide (g1.length+1≤256)&&decide (t0=qcv)))) ?_ ?_
  ·refine Z6t ?_
   refine Zv ?_
   refine qb rfl rfl (fun hg3=>?_) (fun hg3=>?_)
   ·refine Z3d ?_
    refine Z3b ?_
    refine Z3n ?_
    exact Z9o
   ·refine Z9r ?_
    refine Z3f ?_
    refine Z3g ?_
    refine qb rfl rfl (fun hg8=>?_) (fun hg8=>?_)
    ·refine Z3b ?_
     refine Z3n ?_
     exact Z9o
    ·refine Z9p ?_
     refine q1j rfl rfl (by decide) (q4n rfl rfl (by decide) hr rfl) ?_
     refine Z9s ?_
     refine q1j rfl rfl (by decide) (V1.up (q3w (cs:=[.int _ _,.int _ _,.str _]) rfl)) ?_
     refine q1j rfl rfl (by decide) (quz (us:=qfj t0) (vs:=qfj qcv) rfl rfl rfl rfl Y1z (qfi _ _)) ?_
     refine Zr ?_
     exact Z9o
  clear hr
  rw [qnn]
  refine Z1 ?_
  refine qa rfl (fun hc=>?_) (fun hc=>?_)
  ·have hno:(decide (g1.length+1≤256)&&decide (t0=qcv))=false:=by simpa only [Bool.not_eq_true'] using hc
   rw [hno,Bool.false_and]
   exact Z53
  have hyes:(decide (g1.length+1≤256)&&decide (t0=qcv))=true:=by simpa only [Bool.not_eq_false'] using hc
  rw [hyes,Bool.true_and]
  have hl2:g1.length+1≤256:=by simp at hyes;omega
  refine Z45 ?_
  refine ao1 (by decide) (qbu (ys:=g1.map qw) rfl (Bd.some rfl rfl) (by simp) (qgp _) rfl) ?_
  refine Z75 ?_
  refine qm (G:=Nat) (fun i=>i≤g1.length∧∀ k,k<i→qm3 (t0 :: g1) k=true) (fun i=>[(0,.pl ((t0 :: g1).map qw)),(21,.pl (g1.map qw)),(22,.int .i64 ((g1.map qw).length:Int)),(23,.int .i64 (i:Int))]) (fun _=>H++[]) (fun i=>g1.length-i) 0 ⟨Nat.zero_le _,fun k hk=>by omega⟩ Y8 (Fit.refl _ _) ?_
  rintro i ⟨hi,hno⟩
  refine Z4r ?_
  refine qa rfl (fun hc=>?_) (fun hc=>?_)
  ·have hlt:i<g1.length:=by simpa using hc
   obtain ⟨t,ht,htl⟩:=qr hlt
   have hr:=qk qw ht
   have hB2:=qze (g:=t0 :: g1) (i:=i) (t:=t) ht
   refine Z9u ?_
   refine Z9v ?_
   refine Z3 ?_
   refine Z9w ?_
   refine Z9y ?_
   have hno0:=hno
   clear hr htl ht hno hc
   by_cases hup:0≤t.up∧t.up≤(i:Int)
   ·obtain ⟨u,hu,_⟩:=qr (l:=t0 :: g1) (k:=t.up.toNat) (by simp only [List.length_cons];omega)
    have hr1:=qk qw hu
    have hk:q4f (t0 :: g1) t.up.toNat=u.kind:=by rw [q4f,hu]
    rw [hk] at hB2
    clear hu hk hyes hl
    refine Z1 ?_
    refine q20 64 (.bool (!qm3 (t0 :: g1) i)) ?_ ?_
    ·refine Za0 ?_
     refine Za1 ?_
     refine Za2 ?_
     refine Za3 ?_
     refine Z7l ?_
     refine q13 (g:=31) rfl (fun hg3=>?_) (fun hg3=>?_)
     ·refine Za4 ?_
      refine Za5 ?_
      refine Za6 ?_
      refine Za7 ?_
      refine Za8 ?_
      refine Za9 ?_
      refine Zaa ?_
      refine Zab ?_
      refine Zac ?_
      refine Zad ?_
      refine Zae ?_
      refine Zaf ?_
      refine Zag ?_
      refine Zah ?_
      refine Zai ?_
      refine Zaj ?_
      refine Zak ?_
      refine Zal ?_
      refine Zam ?_
      refine Zan ?_
      refine Zao ?_
      refine Zap ?_
      refine Zaq ?_
      refine Zar ?_
      refine Zaz ?_
      exact Zb0
     ·refine Zb1 ?_
      refine Zb2 ?_
      refine Zb3 ?_
      refine Zb4 ?_
      refine Zb5 ?_
      refine Za9 ?_
      refine q13 (g:=37) rfl (fun hg9=>?_) (fun hg9=>?_)
      ·refine Zaa ?_
       refine Zab ?_
       refine Zac ?_
       refine Zad ?_
       refine Zae ?_
       refine Zaf ?_
       refine Zag ?_
       refine Zah ?_
       refine Zai ?_
       refine Zaj ?_
       refine Zak ?_
       refine Zal ?_
       refine Zam ?_
       refine Zan ?_
       refine Zao ?_
       refine Zap ?_
       refine Zaq ?_
       refine Zar ?_
       refine Zaz ?_
       exact Zb0
      ·refine q31 (g:=37) 10 rfl Y1q (by decide) rfl rfl (fun G=>qd rfl (lk rfl rfl) rfl (by decide)) ?_
       refine q31 (g:=37) 11 rfl Y1q (by decide) rfl rfl (fun G=>qh (v:=.int _ _) rfl (lk rfl rfl) rfl rfl rfl) ?_
       refine q2l (g:=37) 12 rfl Y1q (by decide) rfl rfl (fun _=>qi (v:=.pl _) rfl) ?_
       refine q31 (g:=37) 13 rfl Y1q (by decide) rfl rfl (fun G=>qd rfl (lk rfl rfl) rfl (by decide)) ?_
       refine q31 (g:=37) 14 rfl Y1q (by decide) rfl rfl (fun G=>qh (v:=.int _ _) rfl (lk rfl rfl) rfl rfl rfl) ?_
       refine q31 (g:=37) 15 rfl Y1q (by decide) rfl rfl (fun G=>q4n rfl rfl hup.1 hr1 rfl) ?_
       refine q31 (g:=37) 16 rfl Y1q (by decide) rfl rfl (fun G=>q4m rfl (by decide)) ?_
       refine q31 (g:=37) 17 rfl Y1q (by decide) rfl rfl (fun G=>q29 (v:=.int _ _) rfl hr1 rfl) ?_
       refine qbg (g:=37) 18 rfl Y1q (by decide) rfl rfl (fun _=>V2.call (qqy _ _ _) rfl) ?_
       refine q2l (g:=37) 19 rfl Y1q (by decide) rfl rfl (fun _=>qc1 rfl) ?_
       refine aq0 20 rfl Y1q (by decide) (fun _=>q1m (v:=.bool _) rfl rfl) ?_
       refine Zal ?_
       refine q13 (g:=49) rfl (fun hg21=>?_) (fun hg21=>?_)
       ·refine Zam ?_
        refine Zan ?_
        refine Zao ?_
        refine Zap ?_
        refine Zaq ?_
        refine Zar ?_
        refine Zaz ?_
        exact Zb6
       ·refine q31 (g:=49) 22 rfl Y1q (by decide) rfl rfl (fun G=>qd rfl (lk rfl rfl) rfl (by decide)) ?_
        refine q31 (g:=49) 23 rfl Y1q (by decide) rfl rfl (fun G=>qh (v:=.str _) rfl (lk rfl rfl) rfl rfl rfl) ?_
        refine qbg (g:=49) 24 rfl Y1q (by decide) rfl rfl (fun _=>V2.call (qkw _ _) rfl) ?_
        refine q2l (g:=49) 25 rfl Y1q (by decide) rfl rfl (fun _=>qc1 rfl) ?_
        refine Zb7 ?_
        refine Zar ?_
        refine q13 (g:=55) rfl (fun hg27=>?_) (fun hg27=>?_)
        ·refine Zaz ?_
         exact Zb6
        ·refine q31 (g:=55) 28 rfl Y1q (by decide) rfl rfl (fun G=>qd rfl (lk rfl rfl) rfl (by decide)) ?_
         refine q31 (g:=55) 29 rfl Y1q (by decide) rfl rfl (fun G=>qh (v:=.str _) rfl (lk rfl rfl) rfl rfl rfl) ?_
         refine q2l (g:=55) 30 rfl Y1q (by decide) rfl rfl (fun _=>qny rfl rfl) ?_
         refine q2l (g:=55) 31 rfl Y1q (by decide) rfl rfl (fun _=>qi (v:=.bool _) rfl) ?_
         refine q13 (g:=59) rfl (fun hg31=>?_) (fun hg31=>?_)
         ·refine q31 (g:=59) 32 rfl Y1q (by decide) rfl rfl (fun G=>qd rfl (lk rfl rfl) rfl (by decide)) ?_
          refine q31 (g:=59) 33 rfl Y1q (by decide) rfl rfl (fun G=>qh (v:=.int _ _) rfl (lk rfl rfl) rfl rfl rfl) ?_
          refine q2l (g:=59) 34 rfl Y1q (by decide) rfl rfl (fun _=>qyz rfl rfl) ?_
          refine q2l (g:=55) 35 rfl Y1q (by decide) rfl rfl (fun _=>q1n (v:=.bool _) rfl rfl) ?_
          refine Zb8 ?_
          exact q1y Y1q Y1b (Out.mk (by (refine congrArg AV.bool ?_;(rw [hB2];clear hB hr1 hB2;grind))) Yb)
         ·refine q15 (g:=59) 32 rfl Y1q (by decide) rfl rfl rfl ?_
          refine q15 (g:=59) 33 rfl Y1q (by decide) rfl rfl rfl ?_
          refine q15 (g:=59) 34 rfl Y1q (by decide) rfl rfl rfl ?_
          refine q2l (g:=55) 35 rfl Y1q (by decide) rfl rfl (fun _=>q1m (v:=.bool _) rfl rfl) ?_
          refine Zb8 ?_
          exact Zb6
    refine Z1 ?_
    refine qa rfl (fun hc=>?_) (fun hc=>?_)
    ·have hbad:qm3 (t0 :: g1) i=false:=by simpa only [Bool.not_eq_true'] using hc
     refine Zf ?_
     rw [q48 hlt hbad]
     exact Zb
    ·have hgood:qm3 (t0 :: g1) i=true:=by simpa only [Bool.not_eq_false'] using hc
     refine Z52 ?_
     refine ⟨i+1,by omega,⟨by omega,fun k hk=>?_⟩,Y8,Fit.loc hB (L:=[]) rfl Y1 (fun o ho=>by simp at ho)⟩
     rcases Nat.lt_or_eq_of_le (Nat.le_of_lt_succ hk) with h | h
     ·exact hno0 k h
     ·subst h;exact hgood
   ·have hB3:qm3 (t0 :: g1) i=false:=by
     rw [hB2]
     rcases Classical.not_and_iff_not_or_not.1 hup with h | h
     ·rw [decide_eq_false h];rfl
     ·rw [decide_eq_false h];simp
    clear hB2 hyes hl
    refine Z1 ?_
    refine q20 64 (.bool (!qm3 (t0 :: g1) i)) ?_ ?_
    ·refine Za0 ?_
     refine Za1 ?_
     refine Za2 ?_
     refine Za3 ?_
     refine Z7l ?_
     refine q13 (g:=31) rfl (fun hg3=>?_) (fun hg3=>?_)
     ·refine Za4 ?_
      refine Za5 ?_
      refine Za6 ?_
      refine Za7 ?_
      refine Za8 ?_
      refine Za9 ?_
      refine Zaa ?_
      refine Zab ?_
      refine Zac ?_
      refine Zad ?_
      refine Zae ?_
      refine Zaf ?_
      refine Zag ?_
      refine Zah ?_
      refine Zai ?_
      refine Zaj ?_
      refine Zak ?_
      refine Zal ?_
      refine Zam ?_
      refine Zan ?_
      refine Zao ?_
      refine Zap ?_
      refine Zaq ?_
      refine Zar ?_
      refine Zaz ?_
      exact Zb9
     ·refine Zb1 ?_
      refine Zb2 ?_
      refine Zb3 ?_
      refine Zb4 ?_
      refine Zb5 ?_
      refine Za9 ?_
      refine q13 (g:=37) rfl (fun hg9=>?_) (fun hg9=>?_)
      ·refine Zaa ?_
       refine Zab ?_
       refine Zac ?_
       refine Zad ?_
       refine Zae ?_
       refine Zaf ?_
       refine Zag ?_
       refine Zah ?_
       refine Zai ?_
       refine Zaj ?_
       refine Zak ?_
       refine Zal ?_
       refine Zam ?_
       refine Zan ?_
       refine Zao ?_
       refine Zap ?_
       refine Zaq ?_
       refine Zar ?_
       refine Zaz ?_
       exact Zb9
      ·exfalso;simp at hg3 hg9;omega
    refine Z1 ?_
    refine qa rfl (fun hc=>?_) (fun hc=>?_)
    ·have hbad:qm3 (t0 :: g1) i=false:=by simpa only [Bool.not_eq_true'] using hc
     refine Zf ?_
     rw [q48 hlt hbad]
     exact Zb
    ·have hgood:qm3 (t0 :: g1) i=true:=by simpa only [Bool.not_eq_false'] using hc
     refine Z52 ?_
     refine ⟨i+1,by omega,⟨by omega,fun k hk=>?_⟩,Y8,Fit.loc hB (L:=[]) rfl Y1 (fun o ho=>by simp at ho)⟩
     rcases Nat.lt_or_eq_of_le (Nat.le_of_lt_succ hk) with h | h
     ·exact hno0 k h
     ·subst h;exact hgood
  ·have:i=g1.length:=by simp at hc;omega
   subst this
   refine Zf ?_
   rw [q4b hno]
   exact Zb
theorem qml (g:List Thing) (n:Int) (H:qf) (hl:g.length≤9223372036854775807):AC Tryz.prog 107 [.pl (g.map qw),.int .i64 n] H (Ret (.bool (q89 g n)) H):=by
 refine AC.body (N:=17) [.tmp 4] Tryz.func107 rfl rfl rfl (Nat.le_of_ble_eq_true rfl) fun B hB=>?_
 refine Zf ?_
 refine qq 4 (.bool (q89 g n)) ?_ ?_
 ·refine Z8 ?_
  refine Z21 ?_
  refine qb rfl rfl (fun hg2=>?_) (fun hg2=>?_)
  ·refine Zj ?_
   refine Z9r ?_
   refine Zk ?_
   refine Z34 ?_
   refine qb rfl rfl (fun hg8=>?_) (fun hg8=>?_)
   ·refine Z9p ?_
    refine q6d rfl rfl (by decide) (V2.call (qa8 _ _ Y1y) rfl) ?_
    refine Zn ?_
    exact qe (Out.mk (by (refine congrArg AV.bool ?_;(simp only [q89];clear hB;(simp_all;done)))) Yb)
   ·refine Zt ?_
    exact Zba
  ·refine Zq ?_
   refine Z5n ?_
   refine Zt ?_
   exact Zba
 exact Z20
set_option maxHeartbeats 0 in
theorem qe3 (g:List Thing) (n:Int) (H:qf) (hl:g.length≤9223372036854775807):AC Tryz.prog 62 [.pl (g.map qw),.int .i64 n] H (Ret (.pl ((q68 g n).map q35)) H):=by
 have hbel:∀ (b i:Nat) (n:Int) (l:List Int),∀ o∈[AObj.mk 0 1 (qmt g n i),AObj.mk l.length 1 (l.map q35)],∀ r∈o.rows,AV.bels b r=true:=by
  intro b i n l o ho r hr
  simp only [List.mem_cons,List.not_mem_nil,or_false] at ho
  rcases ho with rfl | rfl
  ·exact qz9 _ _ _ _ r hr
  ·exact q3a _ _ r hr
 refine AC.body (N:=55) [.tmp 4] Tryz.func62 rfl rfl rfl (Nat.le_of_ble_eq_true rfl) fun B hB=>?_
 refine Z43 ?_
 refine Z90 ?_
 refine qu (qml _ _ _ Y1y) rfl (by decide) ?_
 refine Z3x ?_
 refine qa rfl (fun hc=>?_) (fun hc=>?_)
 ·have hno:q89 g n=false:=by simpa only [Bool.not_eq_true'] using hc
  rw [show q68 g n=[] by rw [q68,hno];rfl]
  refine Z49 ?_
  refine q23 4 rfl ?_
  exact q2z (q4r hB (q2o rfl .nil) rfl rfl)
 have hyes:q89 g n=true:=by simpa only [Bool.not_eq_false'] using hc
 rw [qr4 hyes]
 obtain ⟨m,rfl⟩:∃ m:Nat,n=m:=⟨n.toNat,by simp only [q89,Bool.and_eq_true,decide_eq_true_eq] at hyes;omega⟩
 have hm:m<g.length:=by simp only [q89,Bool.and_eq_true,decide_eq_true_eq] at hyes;omega
 have hg:q2g g=true:=by simp only [q89,Bool.and_eq_true,decide_eq_true_eq] at hyes;exact hyes.2
 have hlen:=q32 hg
 have hml:(g.map qw).length=g.length:=by simp
 refine Z6r ?_
 refine ao2 Y1k (q40 (n:=g.length) (c:=g.length) (bytes:=1) rfl (by decide) (congrArg (fun k:Nat=>AV.int .i64 (k:Int)) hml) (congrArg (fun k:Nat=>AV.int .i64 (k:Int)) hml) (Nat.le_refl _) (by omega) (by omega) rfl) ?_
 refine Z8s ?_
 refine Zbb ?_
 have hrow:(List.replicate g.length [AV.bool false])[0+m]?=some [.bool false]:=by rw [Nat.zero_add,List.getElem?_replicate,if_pos hm]
 refine Z8p ?_
 refine Zbc ?_
 refine ao2 Y1w (q1k (sz:=1) (v:=.bool _) (r':=[.bool true]) rfl rfl rfl rfl hrow rfl rfl rfl Y1m rfl) ?_
 refine Zbd ?_
 rw [Nat.zero_add,qt0 hm]
 clear hrow hc
 refine Z49 ?_
 refine q1s (k:=1) 6 1 rfl (by decide) rfl ?_
 refine Zbf ?_
 refine Z8k ?_
 refine Z1d ?_
 refine qm (G:=Nat) (fun i=>i≤g.length) (fun i=>[(5,.sl (Lid H.length 0) 0 0 g.length g.length),(6,.sl (Lid H.length 1) (idx (uU g m) i).length 0 (idx (uU g m) i).length (idx (uU g m) i).length),(19,.pl (g.map qw)),(20,.int .i64 ((g.map qw).length:Int)),(21,.int .i64 (i:Int))]) (fun i=>H++[⟨0,1,qmt g m i⟩,⟨(idx (uU g m) i).length,1,(idx (uU g m) i).map q35⟩]) (fun i=>g.length-i) 0 (Nat.zero_le _) Y8 (Fit.refl _ _) ?_
 intro i hi
 refine Z4r ?_
 refine qa rfl (fun hc=>?_) (fun hc=>?_)
 ·have hlt:i<g.length:=by simpa using hc
  obtain ⟨t,ht,htl⟩:=qr hlt
  have hr:=qk qw ht
  obtain ⟨hu1,hu2⟩:=qfe hg ht
  have hat:=q14h (n:=(m:Int)) ht hu1
  have hrow0:(qmt g (m:Int) i)[0+i]?=some [.bool (decide ((i:Int)=(m:Int)))]:=by rw [Nat.zero_add,q7r hlt,uAt,if_neg (Nat.lt_irrefl _)]
  have q57:=qwt g (m:Int) i
  have hstep:=qaf (uU g (m:Int)) i
  have hil:=qa7 (uU g (m:Int)) i
  have hrow1:(qmt g (m:Int) (i+1))[0+i]?=some [.bool (uU g (m:Int) i)]:=by rw [Nat.zero_add,q7r hlt,uAt,if_pos (Nat.lt_succ_self _)]
  refine Z9u ?_
  refine Z9v ?_
  refine Z3 ?_
  refine Z9w ?_
  refine Zbh ?_
  clear hr ht htl hc
  refine Z1 ?_
  refine q2x ([(5,.sl (Lid H.length 0) 0 0 g.length g.length),(6,.sl (Lid H.length 1) (idx (uU g m) i).length 0 (idx (uU g m) i).length (idx (uU g m) i).length),(7,.int .i64 (i:Int)),(19,.pl (g.map qw)),(20,.int .i64 ((g.map qw).length:Int)),(21,.int .i64 (i:Int))]) (H++[⟨0,1,qmt g m (i+1)⟩,⟨(idx (uU g m) i).length,1,(idx (uU g m) i).map q35⟩,⟨0,3,[qw t]⟩]) ?_ ?_
  ·by_cases hup:0≤t.up
   ·have hrow2:=q7r (g:=g) (n:=(m:Int)) (i:=i) (j:=t.up.toNat) (by omega)
    rw [uAt,if_pos (by omega),← Nat.zero_add t.up.toNat] at hrow2
    refine Zbi ?_
    refine Z8 ?_
    refine Z8n ?_
    refine Z8 ?_
    refine Zbc ?_
    refine Zbj ?_
    refine Zh ?_
    refine qb rfl rfl (fun hg6=>?_) (fun hg6=>?_)
    ·refine Z4w ?_
     refine Zbk ?_
     refine Z2b ?_
     refine Z3a ?_
     refine Zm ?_
     refine Zbc ?_
     refine Zbl ?_
     refine qe ?_
     (rw [Nat.zero_add,q57];exact q1u Y8 (.inl rfl))
    ·refine Z3s ?_
     refine Z25 ?_
     refine qb rfl rfl (fun hg10=>?_) (fun hg10=>?_)
     ·refine Zbm ?_
      refine Z32 ?_
      refine q1j rfl rfl (by decide) (qf4 rfl (lk rfl rfl) rfl rfl rfl hup (by omega)) ?_
      refine q1j rfl rfl (by decide) (qh (v:=.bool _) rfl (lk rfl rfl) rfl hrow2 rfl) ?_
      refine Z26 ?_
      refine Zr ?_
      refine Zbc ?_
      refine Zbn ?_
      refine qe ?_
      (rw [Nat.zero_add,q57];exact q1u Y8 (.inl rfl))
     ·refine Z29 ?_
      refine Zp ?_
      refine Z2a ?_
      refine Zr ?_
      refine Zbc ?_
      refine ao2 Y1w (q1k (sz:=1) (v:=.bool _) (r':=[.bool (uU g m i)]) rfl rfl rfl rfl hrow0 rfl rfl rfl Y1m (by rw [hat];(exfalso;simp at hg10;omega))) ?_
      refine qe ?_
      (rw [Nat.zero_add,q57];exact q1u Y8 (.inl rfl))
   ·refine Z8p ?_
    refine Z8n ?_
    refine Z8 ?_
    refine Zbc ?_
    refine Zbj ?_
    refine Zh ?_
    refine qb rfl rfl (fun hg6=>?_) (fun hg6=>?_)
    ·refine Z4w ?_
     refine Zbk ?_
     refine Z2b ?_
     refine Z3a ?_
     refine Zm ?_
     refine Zbc ?_
     refine Zbl ?_
     refine qe ?_
     (rw [Nat.zero_add,q57];exact q1u Y8 (.inl rfl))
    ·refine Z3s ?_
     refine Z25 ?_
     refine qb rfl rfl (fun hg10=>?_) (fun hg10=>?_)
     ·exfalso;simp at hg10;omega
     ·refine Z29 ?_
      refine Zp ?_
      refine Z2a ?_
      refine Zr ?_
      refine Zbc ?_
      refine Zbn ?_
      refine qe ?_
      (rw [Nat.zero_add,q57];exact q1u Y8 (.inl rfl))
  refine Z8p ?_
  refine Zbc ?_
  refine ao1 (by decide) (qh (v:=.bool _) rfl (lk rfl rfl) rfl hrow1 rfl) ?_
  refine Z9 ?_
  refine qa rfl (fun hc=>?_) (fun hc=>?_)
  ·refine Z8p ?_
   refine Z8q ?_
   refine Z8u ?_
   rw [show ((idx (uU g (m:Int)) i).map q35).take (idx (uU g (m:Int)) i).length=(idx (uU g (m:Int)) i).map q35 from List.take_of_length_le (by simp)]
   refine Z52 ?_
   refine ⟨i+1,by omega,by omega,by rw [hstep,if_pos hc,List.length_append];exact Y8,Fit.loc hB (by rw [hstep,if_pos hc];simp only [List.length_append,List.length_cons,List.length_nil,List.map_append,List.map_cons,List.map_nil];rfl) Y1 (hbel _ _ _ _)⟩
  ·refine Z52 ?_
   refine ⟨i+1,by omega,by omega,by rw [hstep,if_neg (by simp [hc]),List.append_nil];exact Y8,Fit.loc hB (L':=_) (G:=[_]) (by rw [hstep,if_neg (by simp [hc]),List.append_nil];rfl) Y1 (hbel _ _ _ _)⟩
 ·have:i=g.length:=by simp at hc;omega
  subst this
  refine Z8w ?_
  refine qp (ys:=(idx (uU g m) g.length).map q35) 4 rfl rfl rfl rfl Ym (by simp) (q3a 0 _) ?_
  exact Z8x
theorem q5t (l:List Thing) (H:qf) (hn:l.length≤1000000):AC Tryz.prog 40 [.pl (l.map qw)] H (Ret (.pl (l.map qw)) H):=by
 refine AC.body (N:=8) [.tmp 2] Tryz.func40 rfl rfl rfl (Nat.le_of_ble_eq_true rfl) fun B hB=>?_
 refine Z46 ?_
 refine q69 rfl Y1k (qa6 rfl rfl _ _ _ _) ?_ (fun _ _ h=>h.elim)
 rintro _ _ ⟨nb,rfl,hnb,rfl⟩
 refine Z48 ?_
 refine qa rfl (fun hc=>?_) (fun hc=>?_)
 ·subst hc
  have hb:l=[]:=by
   cases l with
   | nil=>rfl
   | cons x b=>simp at hnb
  subst hb
  refine Z4a ?_
  exact q2z (q4r hB (q2o rfl .nil) rfl rfl)
 ·refine Z2 ?_
  refine Z4b ?_
  refine Z44 ?_
  refine ao2 Y1k (q5i (sz:=3) (bytes:=32) rfl (Src.pl rfl (qgp l)) rfl (by decide) Y1x Y1x (qrc 0 l)) ?_
  exact Z4e
theorem qb8 (l:List Int) (H:qf) (hn:l.length≤1000000):AC Tryz.prog 128 [.pl (l.map eI)] H (Ret (.sl (Lid H.length 0) 0 0 l.length l.length) (H++[⟨0,1,l.map eI⟩])):=by
 refine AC.body (N:=8) [.tmp 2] Tryz.func128 rfl rfl rfl (Nat.le_of_ble_eq_true rfl) fun B hB=>?_
 refine Z46 ?_
 refine q69 rfl Y1k (qa6 rfl rfl _ _ _ _) ?_ (fun _ _ h=>h.elim)
 rintro _ _ ⟨nb,rfl,hnb,rfl⟩
 refine Z48 ?_
 refine qa rfl (fun hc=>?_) (fun hc=>?_)
 ·subst hc
  have hb:l=[]:=by
   cases l with
   | nil=>rfl
   | cons x b=>simp at hnb
  subst hb
  refine Z43 ?_
  refine Zbo ?_
  refine Z1d ?_
  refine Zbp ?_
  exact q2z (qbh (G:=[]) hB (q2o rfl .nil) rfl rfl Y1l (by simp))
 ·refine Z2 ?_
  refine Z4b ?_
  refine Z44 ?_
  refine ao2 Y1k (q8o rfl (Src.pl rfl (qzt l)) rfl (by decide) Y1x Y1x rfl) ?_
  refine Zbq ?_
  refine Z1 ?_
  exact qbh (G:=[]) hB (q2o rfl .nil) (congrArg (fun n=>AV.sl (Lid H.length 0) 0 0 n n) (show (l.map eI).length=l.length by simp)) (by simp) Y1l Ya
theorem qc8 (F:Nat) [FnI Tryz.prog F] (p:Int→Bool) (hF:∀ (x:Int) (H:qf),AC Tryz.prog F [.int .i64 x] H (Ret (.bool (p x)) H)) (l:List Int) (H:qf) (hl:l.length≤1000000):AC Tryz.prog 119 [.pl (l.map eI),.fn (.func F) [] []] H (Ret (.int .i64 (ixf p l)) H):=by
 refine AC.body (N:=19) [.tmp 4] Tryz.func119 rfl rfl rfl (Nat.le_of_ble_eq_true rfl) fun B hB=>?_
 refine Z77 ?_
 refine qm (G:=Nat) (fun k=>k≤l.length∧∀ y∈l.take k,p y=false) (fun k=>[(0,.pl (l.map eI)),(1,.fn (.func F) [] []),(7,.int .i64 (l.length:Int)),(8,.int .i64 (k:Int))]) (fun _=>H++[]) (fun k=>l.length-k) 0 ⟨Nat.zero_le _,by simp⟩ Y8 (Fit.refl _ _) ?_
 rintro k ⟨hk,hno⟩
 refine Z4r ?_
 refine qa rfl (fun hc=>?_) (fun hc=>?_)
 ·have hlt:k<l.length:=by simpa using hc
  obtain ⟨x,hx,hxl⟩:=qr hlt
  have hr:=qk eI hx
  refine Z1c ?_
  refine Z1s ?_
  refine Zbr ?_
  refine Z4u ?_
  refine ao2 Y1k (V2.callv (hF x _) rfl rfl) ?_
  refine Z48 ?_
  refine qa rfl (fun hc=>?_) (fun hc=>?_)
  ·refine Z1t ?_
   rw [qbi hx hc hno]
   exact Zb
  ·refine Z52 ?_
   refine ⟨k+1,by omega,⟨by omega,?_⟩,Y8,.refl _ _⟩
   rw [ql hx]
   intro y hy
   rcases List.mem_append.1 hy with h | h
   ·exact hno y h
   ·simp only [List.mem_singleton] at h
    subst h
    exact hc
 ·have:k=l.length:=by simp at hc;omega
  subst this
  rw [List.take_length] at hno
  rw [qba hno]
  exact Z18
theorem q5s (F:Nat) [FnI Tryz.prog F] (p:Int→Bool) (hF:∀ (x:Int) (H:qf),AC Tryz.prog F [.int .i64 x] H (Ret (.bool (p x)) H)) (l:List Int) (H:qf) (hl:l.length≤1000000):AC Tryz.prog 71 [.pl (l.map eI),.fn (.func F) [] []] H (Ret (.bool (l.any p)) H):=by
 refine AC.body (N:=9) [.tmp 4] Tryz.func71 rfl rfl rfl (Nat.le_of_ble_eq_true rfl) fun B hB=>?_
 refine Z1o ?_
 refine Z45 ?_
 refine Z1r ?_
 refine ao2 Y1k (V2.call (qc8 F p hF l _ hl) rfl) ?_
 refine Z1p ?_
 refine Zbs ?_
 refine Z1 ?_
 rw [← q73]
 exact Zb
theorem qfx (n:Int) (H:qf):AC Tryz.prog 108 [.int .i64 n] H (Ret (.bool (decide (n<0)||decide (2<n))) H):=by
 refine AC.body (N:=9) [.tmp 2] Tryz.func108 rfl rfl rfl (Nat.le_of_ble_eq_true rfl) fun B hB=>?_
 refine Zf ?_
 refine qq 2 (.bool (decide (n<0)||decide (2<n))) ?_ ?_
 ·refine Zw ?_
  refine qb rfl rfl (fun hg2=>?_) (fun hg2=>?_)
  ·refine Z3b ?_
   refine Zn ?_
   exact Zo
  ·refine Z65 ?_
   refine Z3h ?_
   exact Zo
 exact Z20
theorem qlg (g:List Thing) (h:List Int) (H:qf) (hl:g.length≤1000000) (hh:h.length≤1000000):AC Tryz.prog 64 [.pl (g.map qw),.pl (h.map eI)] H (Ret (.bool (q51 g h)) H):=by
 have hl2:g.length≤9223372036854775807:=by omega
 refine AC.body (N:=19) [.tmp 4] Tryz.func64 rfl rfl rfl (Nat.le_of_ble_eq_true rfl) fun B hB=>?_
 refine Zf ?_
 refine qq 4 (.bool (q51 g h)) ?_ ?_
 ·refine Z44 ?_
  refine Zbt ?_
  refine Zh ?_
  refine qb rfl rfl (fun hg2=>?_) (fun hg2=>?_)
  ·refine Z9r ?_
   refine Z9r ?_
   refine Z3q ?_
   refine qb rfl rfl (fun hg9=>?_) (fun hg9=>?_)
   ·refine Z9p ?_
    refine q6d rfl rfl (by decide) (V2.call (q5s 108 _ qfx h _ hh) rfl) ?_
    refine Z1v ?_
    refine Zn ?_
    exact Zbu
   ·refine Z1z ?_
    exact Zbu
  ·refine Zq ?_
   refine Z38 ?_
   exact qe (Out.mk (by (refine congrArg AV.bool ?_;(simp only [q51];clear hB;(simp_all;done)))) Yb)
 exact Z20
theorem qqr (g:List Thing) (H:qf) (hl:g.length≤1000000):AC Tryz.prog 61 [.pl (g.map qw)] H (Ret (.pl ((if q2g g then List.replicate g.length (0:Int) else []).map eI)) H):=by
 have hl2:g.length≤9223372036854775807:=by omega
 refine AC.body (N:=9) [.tmp 2] Tryz.func61 rfl rfl rfl (Nat.le_of_ble_eq_true rfl) fun B hB=>?_
 refine Z46 ?_
 refine Zbt ?_
 refine Z3x ?_
 refine qa rfl (fun hc=>?_) (fun hc=>?_)
 ·have hno:q2g g=false:=by simpa only [Bool.not_eq_true'] using hc
  rw [hno]
  refine Z4a ?_
  exact q2z (q4r hB (q2o rfl .nil) rfl rfl)
 have hyes:q2g g=true:=by simpa only [Bool.not_eq_false'] using hc
 rw [hyes,if_pos rfl]
 have hml:(g.map qw).length=g.length:=by simp
 refine Z6r ?_
 refine ao2 Y1k (q40 (n:=g.length) (c:=g.length) (bytes:=8) rfl (by decide) (congrArg (fun k:Nat=>AV.int .i64 (k:Int)) hml) (congrArg (fun k:Nat=>AV.int .i64 (k:Int)) hml) (Nat.le_refl _) (by omega) (by omega) rfl) ?_
 refine Z8s ?_
 refine Zbb ?_
 refine Z1d ?_
 refine qp (ys:=(List.replicate g.length (0:Int)).map eI) 2 rfl rfl rfl rfl (by rw [List.drop_zero,List.take_of_length_le (by simp),List.map_replicate]) (by simp) (qd3 0 _) ?_
 exact Z8x
set_option maxHeartbeats 0 in
theorem qjr (g:List Thing) (h:List Int) (H:qf) (hg:q2g g=true) (hh:h.length=g.length):AC Tryz.prog 247 [.pl (g.map qw),.pl (h.map eI)] H (Ret (.pl ((q4t g h g.length).map eI)) H):=by
 have hlen:=q32 hg
 refine AC.body (N:=35) [.tmp 4] Tryz.func247 rfl rfl rfl (Nat.le_of_ble_eq_true rfl) fun B hB=>?_
 refine Z46 ?_
 refine ao2 Y1k (V2.callo (qb8 h _ (by omega)) rfl rfl) ?_
 refine Zbq ?_
 rw [hh]
 refine Z76 ?_
 refine qm (G:=Nat) (fun i=>i≤g.length) (fun i=>[(5,.sl (Lid H.length 0) 0 0 g.length g.length),(10,.pl (g.map qw)),(11,.int .i64 ((g.map qw).length:Int)),(12,.int .i64 (i:Int))]) (fun i=>H++[⟨0,1,(qma g h i).map eI⟩]) (fun i=>g.length-i) 0 (Nat.zero_le _) Y8 (.inl (by rw [qt9 hh])) ?_
 intro i hi
 refine Z4r ?_
 refine qa rfl (fun hc=>?_) (fun hc=>?_)
 ·have hlt:i<g.length:=by simpa using hc
  obtain ⟨t,ht,htl⟩:=qr hlt
  have hr:=qk qw ht
  obtain ⟨hu1,hu2⟩:=qfe hg ht
  have hat:=q14a (h:=h) ht hu1
  refine Z9u ?_
  refine Z9v ?_
  refine Z3 ?_
  refine Z9w ?_
  refine Zbh ?_
  refine Z58 ?_
  refine Z1p ?_
  refine Z4l ?_
  clear hr
  refine Z1 ?_
  refine qa rfl (fun hc=>?_) (fun hc=>?_)
  ·have hup:0≤t.up:=by simpa using hc
   rw [if_pos hup] at hat
   have hr0:((qma g h i).map eI)[0+i]?=some [.int .i64 (h.getD i 0)]:=by rw [Nat.zero_add,List.getElem?_map,q85 hlt,wAt,if_neg (by omega)];rfl
   have hr1:((qma g h i).map eI)[0+t.up.toNat]?=some [.int .i64 (wW g h t.up.toNat)]:=by rw [Nat.zero_add,List.getElem?_map,q85 (by omega),wAt,if_pos (by omega)];rfl
   have q57:((qma g h i).map eI).set (0+i) [.int .i64 (wW g h i)]=(qma g h (i+1)).map eI:=by rw [Nat.zero_add,← qxy,List.map_set]
   refine q3i mixed (some 13) 2 ?_
   refine Z7x ?_
   refine Zbw ?_
   refine Zbx ?_
   refine Zby ?_
   refine aqp 4 rfl Y1q (by decide) (fun G=>q12 rfl (lk rfl rfl) rfl rfl rfl (by omega)) ?_
   refine aqp 5 rfl Y1q (by decide) (fun G=>qh (v:=.int _ _) rfl (lk rfl rfl) rfl hr0 rfl) ?_
   refine aq0 6 rfl Y1q (by decide) (fun _=>qi (v:=.sl _ _ _ _ _) rfl) ?_
   refine Zbz ?_
   refine aqp 8 rfl Y1q (by decide) (fun G=>qh (v:=.int _ _) rfl (lk rfl rfl) rfl rfl rfl) ?_
   refine aqp 9 rfl Y1q (by decide) (fun G=>qf4 rfl (lk rfl rfl) rfl rfl rfl hup (by omega)) ?_
   refine aqp 10 rfl Y1q (by decide) (fun G=>qh (v:=.int _ _) rfl (lk rfl rfl) rfl hr1 rfl) ?_
   refine aq0 11 rfl Y1q (by decide) (fun _=>qwq (r:=wW g h i) rfl rfl hat.symm) ?_
   refine aqp 12 rfl Y1q (by decide) (fun G=>q12 rfl (lk rfl rfl) rfl rfl rfl (by omega)) ?_
   refine aqs 13 rfl Y1q Y1b Y1w (q1k (sz:=1) (v:=.int _ _) (r':=[.int .i64 (wW g h i)]) rfl rfl rfl rfl hr0 rfl rfl rfl Y1m rfl) ?_
   refine Z7d ?_
   refine Z60 ?_
   rw [q57]
   refine Z52 ?_
   exact ⟨i+1,by omega,by omega,Y8,Fit.loc hB rfl Y1 Ya⟩
  ·have hup:¬ 0≤t.up:=by simpa using hc
   rw [if_neg hup] at hat
   refine Z52 ?_
   refine ⟨i+1,by omega,by omega,Y8,Fit.loc hB (G:=[_]) (by rw [qsb hat];rfl) Y1 Ya⟩
 ·have:i=g.length:=by simp at hc;omega
  subst this
  rw [qzb]
  refine Z8w ?_
  refine qp (ys:=(q4t g h g.length).map eI) 4 rfl rfl rfl rfl (by rw [List.drop_zero,List.take_of_length_le (by simp [q3u])]) (by simp [q3u]) (qd3 0 _) ?_
  exact Z8x
def hbP (g:List Thing) (h:List Int) (most:Int) (k:Nat):Bool:=decide ((q4t g h g.length).getD k 0≤most)
set_option maxHeartbeats 0 in
theorem qkp (g:List Thing) (h:List Int) (most:Int) (H:qf) (hl:g.length≤1000000) (hh:h.length≤1000000):AC Tryz.prog 225 [.pl (g.map qw),.pl (h.map eI),.int .i64 most] H (Ret (.pl ((q2p g h most).map eI)) H):=by
 refine AC.body (N:=32) [.tmp 6] Tryz.func225 rfl rfl rfl (Nat.le_of_ble_eq_true rfl) fun B hB=>?_
 refine Z8y ?_
 refine Zc0 ?_
 refine Z3x ?_
 refine qa rfl (fun hc=>?_) (fun hc=>?_)
 ·have hno:q51 g h=false:=by simpa only [Bool.not_eq_true'] using hc
  rw [show q2p g h most=[] by rw [q2p,hno];rfl]
  refine Z49 ?_
  refine q23 6 rfl ?_
  exact q2z (q4r hB (q2o rfl .nil) rfl rfl)
 have hyes:q51 g h=true:=by simpa only [Bool.not_eq_false'] using hc
 obtain ⟨hg,hh2,_⟩:=q6k hyes
 have hlen:=q32 hg
 rw [show q2p g h most=idx (hbP g h most) g.length by rw [q2p,hyes];rfl]
 have hwl:((q4t g h g.length).map eI).length=g.length:=by rw [List.length_map,q3u]
 clear hc
 refine Z49 ?_
 refine q1s (k:=0) 7 1 rfl (by decide) rfl ?_
 refine Zbe ?_
 refine Z44 ?_
 refine qu (qjr _ _ _ Y1y Y1y) rfl (by decide) ?_
 refine Z4o ?_
 refine Zc1 ?_
 refine Z1d ?_
 refine qm (G:=Nat) (fun i=>i≤g.length) (fun i=>[(2,.int .i64 most),(7,.sl (Lid H.length 0) (idx (hbP g h most) i).length 0 (idx (hbP g h most) i).length (idx (hbP g h most) i).length),(16,.pl ((q4t g h g.length).map eI)),(17,.int .i64 (((q4t g h g.length).map eI).length:Int)),(18,.int .i64 (i:Int))]) (fun i=>H++[⟨(idx (hbP g h most) i).length,1,(idx (hbP g h most) i).map eI⟩]) (fun i=>g.length-i) 0 (Nat.zero_le _) Y8 (Fit.refl _ _) ?_
 intro i hi
 refine Z4r ?_
 refine qa rfl (fun hc=>?_) (fun hc=>?_)
 ·have hlt:i<g.length:=by rw [hwl] at hc;simpa using hc
  obtain ⟨x,hx,hxl⟩:=qr (l:=q4t g h g.length) (k:=i) (by rw [q3u];exact hlt)
  have hr:=qk eI hx
  have hxw:=qw9 hx
  have hstep:=qaf (hbP g h most) i
  have hil:=qa7 (hbP g h most) i
  have hP:hbP g h most i=decide (x≤most):=by rw [hbP,hxw];rfl
  refine Z11 ?_
  refine Z4u ?_
  refine Z15 ?_
  refine Z2k ?_
  refine Zg ?_
  refine Z9 ?_
  refine qa rfl (fun hc=>?_) (fun hc=>?_)
  ·have hp:hbP g h most i=true:=by rw [hP];exact hc
   refine Zbi ?_
   refine Z8 ?_
   refine Z8q ?_
   refine Z8t ?_
   refine Zc2 ?_
   rw [show ((idx (hbP g h most) i).map eI).take (idx (hbP g h most) i).length=(idx (hbP g h most) i).map eI from List.take_of_length_le (by simp)]
   refine Z52 ?_
   refine ⟨i+1,by omega,by omega,by rw [hstep,if_pos hp,List.length_append];exact Y8,Fit.loc hB (by rw [hstep,if_pos hp];simp only [List.length_append,List.length_cons,List.length_nil,List.map_append,List.map_cons,List.map_nil];rfl) Y1 Ya⟩
  ·have hp:¬ hbP g h most i=true:=by rw [hP];simpa using hc
   refine Z52 ?_
   refine ⟨i+1,by omega,by omega,by rw [hstep,if_neg hp,List.append_nil];exact Y8,.inl (by rw [hstep,if_neg hp,List.append_nil])⟩
 ·have:i=g.length:=by rw [hwl] at hc;simp at hc;omega
  subst this
  refine Z8w ?_
  refine qp (ys:=(idx (hbP g h most) g.length).map eI) 6 rfl rfl rfl rfl Ym (by simp) (qd3 0 _) ?_
  exact Z8x
theorem qi8 (g:List Thing) (h:List Int) (H:qf) (hl:g.length≤1000000) (hh:h.length≤1000000):AC Tryz.prog 236 [.pl (g.map qw),.pl (h.map eI)] H (Ret (.pl ((q2p g h 0).map eI)) H):=by
 refine AC.body (N:=8) [.tmp 4] Tryz.func236 rfl rfl rfl (Nat.le_of_ble_eq_true rfl) fun B hB=>?_
 refine Z8y ?_
 refine Zc3 ?_
 refine Z4c ?_
 refine Z9 ?_
 exact Zb
end Go.Av
namespace Go.Av
section
variable {P : Program} {N : Nat} {B : Base} {ops : Array Oper} {a : Option Nat} {C : qf → Prop} {F : Env → qf → Prop}
variable {fuel : Nat} {listed : Array Bool} {env : Env} {H H0 L : qf} {op : Op} {ty : TypeId} {pos : String} {after : Array Edge} {v : AV}
theorem aqp2 {d:Nat} {L0:qf} (i:Nat) (hi:ops[i]?=some ⟨some d,op,ty,pos,after,none⟩) (hB:q6m ops listed a i=true) (hd:DN d N) (h1:∀ G,V2 P N op ty (renv ⟨some d,op,ty,pos,after,none⟩ env) (H0++(L0++G)) v (H0++(L0++G)))
  (h:AAny P N B ops a (Pre H0 L0) F fuel (listed.setIfInBounds i true) ((d,v) :: env) H):AAny P N B ops a (Pre H0 L0) F (fuel+1) listed env H :=
 aq2 i hi hB hd Y13 h
theorem q14o {d j g:Nat} {want:Bool} {L0:qf} (i:Nat) (hi:ops[i]?=some ⟨some d,op,ty,pos,after,some (j,want)⟩) (hB:q6m ops listed a i=true) (hd:DN d N) (hj:(ops[j]?).bind (·.dst)=some g) (hb:get env g = .bool want)
  (h1:∀ G,V2 P N op ty (renv ⟨some d,op,ty,pos,after,some (j,want)⟩ env) (H0++(L0++G)) v (H0++(L0++G)))
  (h:AAny P N B ops a (Pre H0 L0) F fuel (listed.setIfInBounds i true) ((d,v) :: env) H):AAny P N B ops a (Pre H0 L0) F (fuel+1) listed env H :=
 aqy2 i hi hB hd hj hb Y13 h
end
end Go.Av
namespace Go.Av
open Go.Proofs
theorem qq2 (a b c d:Int) (H:qf):AC Tryz.prog 153 [.int .i64 a,.int .i64 b,.int .i64 c,.int .i64 d] H (Ret (.bool (qj6 a b c d)) H):=by
 refine AC.body (N:=16) [.tmp 8] Tryz.func153 rfl rfl rfl (Nat.le_of_ble_eq_true rfl) fun B hB=>?_
 refine Zf ?_
 refine qq 8 (.bool (qj6 a b c d)) ?_ ?_
 ·refine Z2r ?_
  refine ao1 (by decide) (qwq (r:=max a c) rfl rfl rfl) ?_
  refine Z2r ?_
  refine ao1 (by decide) (q10x (r:=min b d) rfl rfl rfl) ?_
  refine Zu ?_
  refine Zd ?_
  exact Z10
 exact Z20
theorem qo9 (h:Held) (H:qf) (hw:h.things.length≤1000000):AC Tryz.prog 111 [.agg (qj h)] H (Ret (.bool (hmay h)) H):=by
 refine AC.body (N:=29) [.tmp 2] Tryz.func111 rfl rfl rfl (Nat.le_of_ble_eq_true rfl) fun B hB=>?_
 refine Zc5 ?_
 refine Z2x ?_
 refine qq 2 (.bool (hmay h)) ?_ ?_
 ·refine Z4i ?_
  refine Z4k ?_
  refine Z2p ?_
  refine Zh ?_
  refine qb rfl rfl (fun hg4=>?_) (fun hg4=>?_)
  ·refine Zc7 ?_
   refine Zc8 ?_
   refine Z34 ?_
   refine qb rfl rfl (fun hg9=>?_) (fun hg9=>?_)
   ·refine Z32 ?_
    refine Z5j ?_
    refine Z34 ?_
    refine qb rfl rfl (fun hg14=>?_) (fun hg14=>?_)
    ·refine Z32 ?_
     refine Z5j ?_
     refine Z34 ?_
     refine qb rfl rfl (fun hg19=>?_) (fun hg19=>?_)
     ·refine Z55 ?_
      refine Zk ?_
      refine Zn ?_
      exact Zc9
     ·refine Z56 ?_
      exact Zca
    ·refine Zcc ?_
     exact Zca
   ·refine Z37 ?_
    refine Zcc ?_
    exact Zc9
  ·refine Z37 ?_
   refine Z37 ?_
   refine Zcc ?_
   exact Zc9
 exact Z20
theorem qqt (a b:Held) (H:qf) (ha:a.things.length≤1000000) (hb:b.things.length≤1000000):AC Tryz.prog 114 [.agg (qj a),.agg (qj b)] H (Ret (.bool (q5y a b)) H):=by
 refine AC.body (N:=22) [.tmp 4] Tryz.func114 rfl rfl rfl (Nat.le_of_ble_eq_true rfl) fun B hB=>?_
 refine Zc5 ?_
 refine Zc4 ?_
 refine Z1n ?_
 refine Zcd ?_
 refine qq 4 (.bool (q5y a b)) ?_ ?_
 ·refine Zce ?_
  refine Zce ?_
  refine Zcf ?_
  refine Zh ?_
  refine qb rfl rfl (fun hg9=>?_) (fun hg9=>?_)
  ·refine Zcg ?_
   refine q6d rfl rfl (by decide) (V2.call (qu0 _ _ (by omega) (by omega) _) rfl) ?_
   refine Z1v ?_
   refine Zn ?_
   exact Zch
  ·refine Z29 ?_
   refine Zt ?_
   exact Zch
 exact Z20
theorem qkz (x y:Held) (ia:Nat) (H:qf) (hx:x.things.length≤1000000) (hy:y.things.length≤1000000) (ha:H[ia]?=some ⟨0,4,[qj y]⟩):AC Tryz.prog 113 [.agg (qj x),.pt ia 0 0 0] H (Ret (.bool (q5y x y)) H):=by
 have hF:=ha
 refine AC.body (N:=7) [.tmp 3] Tryz.func113 rfl rfl rfl (Nat.le_of_ble_eq_true rfl) fun B hB=>?_
 refine Zc5 ?_
 refine Z2w ?_
 refine Z3v ?_
 refine Zci ?_
 refine Zcj ?_
 exact Z1q
theorem qbs (l:List Held) (h:Held) (ia:Nat) (H:qf) (hl:HW l) (hy:h.things.length≤1000000) (ha:H[ia]?=some ⟨0,4,[qj h]⟩) :
  AC Tryz.prog 152 [.pl (l.map qj),.fn (.func 113) [] [.pt ia 0 0 0]] H (Ret (.int .i64 (ixf (fun x=>q5y x h) l)) H):=by
 have hl1:=hl.1
 refine AC.body (N:=19) [.tmp 4] Tryz.func152 rfl rfl rfl (Nat.le_of_ble_eq_true rfl) fun B hB=>?_
 refine Z77 ?_
 refine qm (G:=Nat) (fun k=>k≤l.length∧∀ y∈l.take k,q5y y h=false) (fun k=>[(0,.pl (l.map qj)),(1,.fn (.func 113) [] [.pt ia 0 0 0]),(7,.int .i64 (l.length:Int)),(8,.int .i64 (k:Int))]) (fun _=>H++[]) (fun k=>l.length-k) 0 ⟨Nat.zero_le _,by simp⟩ Y8 (Fit.refl _ _) ?_
 rintro k ⟨hk,hno⟩
 refine Z4r ?_
 refine qa rfl (fun hc=>?_) (fun hc=>?_)
 ·have hlt:k<l.length:=by simp at hc;omega
  obtain ⟨x,hx,hxl⟩:=qr hlt
  have hr:=qk qj hx
  have hxw:=hl.2 x hxl
  refine Z1c ?_
  refine Z1s ?_
  refine Zbr ?_
  refine Z9t ?_
  refine qie (qkz x h ia _ hxw hy (lkF ha)) rfl rfl (by decide) ?_
  refine Z9 ?_
  refine qa rfl (fun hc=>?_) (fun hc=>?_)
  ·refine Z1t ?_
   rw [qbi (p:=fun x:Held=>q5y x h) hx hc hno]
   exact Zb
  ·refine Z52 ?_
   refine ⟨k+1,by omega,⟨by omega,?_⟩,Y8,.refl _ _⟩
   rw [ql hx]
   intro y hy
   rcases List.mem_append.1 hy with h | h
   ·exact hno y h
   ·simp only [List.mem_singleton] at h
    subst h
    exact hc
 ·have:k=l.length:=by simp at hc;omega
  subst this
  rw [List.take_length] at hno
  rw [qba hno]
  exact Z18
theorem q9f (l:List Held) (h:Held) (ia:Nat) (H:qf) (hl:HW l) (hy:h.things.length≤1000000) (ha:H[ia]?=some ⟨0,4,[qj h]⟩) :
  AC Tryz.prog 112 [.pl (l.map qj),.fn (.func 113) [] [.pt ia 0 0 0]] H (Ret (.bool (l.any fun x=>q5y x h)) H):=by
 refine AC.body (N:=9) [.tmp 4] Tryz.func112 rfl rfl rfl (Nat.le_of_ble_eq_true rfl) fun B hB=>?_
 refine Z1o ?_
 refine Z45 ?_
 refine Z1r ?_
 refine ao2 Y1k (V2.call (qbs l h ia _ hl hy (lkF ha)) rfl) ?_
 refine Z1p ?_
 refine Zbs ?_
 refine Z1 ?_
 rw [← q73]
 exact Zb
set_option maxHeartbeats 0 in
theorem qh6 (l:List Held) (H:qf) (hl:HW l):AC Tryz.prog 68 [.pl (l.map qj)] H (Ret (.bool (q2a l)) H):=by
 have hl1:=hl.1
 refine AC.body (N:=41) [.tmp 2] Tryz.func68 rfl rfl rfl (Nat.le_of_ble_eq_true rfl) fun B hB=>?_
 refine Z6s ?_
 refine Z2q ?_
 refine qa rfl (fun hc=>?_) (fun hc=>?_)
 ·have h256:¬ l.length≤256:=by simp at hc;omega
  refine Zf ?_
  rw [show q2a l=false by rw [q2a,decide_eq_false h256,Bool.false_and]]
  exact Zb
 have h256:l.length≤256:=by simp at hc;omega
 rw [show q2a l=qmm (qcl l) l.length by rw [q2a,decide_eq_true h256,Bool.true_and]]
 refine Z76 ?_
 refine qm (G:=Nat) (fun i=>i≤l.length∧∀ k,k<i→qcl l k=true) (fun i=>[(0,.pl (l.map qj)),(8,.pl (l.map qj)),(9,.int .i64 (l.length:Int)),(10,.int .i64 (i:Int))]) (fun _=>H++[]) (fun i=>l.length-i) 0 ⟨Nat.zero_le _,fun k hk=>by omega⟩ Y8 (Fit.refl _ _) ?_
 rintro i ⟨hi,hno⟩
 refine Z4r ?_
 refine qa rfl (fun hc=>?_) (fun hc=>?_)
 ·have hlt:i<l.length:=by simp at hc;omega
  obtain ⟨h,hh,hhl⟩:=qr hlt
  have hr:=qk qj hh
  have hw:=hl.2 h hhl
  have hB2:=qsm hh
  have hno0:=hno
  have hli:((l.map qj).take i)=(l.take i).map qj:=by rw [List.map_take]
  clear hno hc
  refine Z9u ?_
  refine Z72 ?_
  refine Z3 ?_
  refine Zck ?_
  refine Z9y ?_
  clear hr
  by_cases h0:0<i
  ·obtain ⟨h1,hh1,_⟩:=qr (l:=l) (k:=i-1) (by omega)
   have hr1:=qk qj hh1
   rw [qhb hh1,decide_eq_true h0,Bool.true_and] at hB2
   clear hh hhl hh1
   refine Z1 ?_
   refine q20 39 (.bool (!qcl l i)) ?_ ?_
   ·refine Za0 ?_
    refine Zcl ?_
    refine Zcm ?_
    refine Zcn ?_
    refine Z7l ?_
    refine q13 (g:=18) rfl (fun hg3=>?_) (fun hg3=>?_)
    ·refine Zco ?_
     refine Zcp ?_
     refine Zcq ?_
     refine Zcr ?_
     refine Zcs ?_
     refine Zct ?_
     refine Zcu ?_
     refine Zcv ?_
     refine Zcw ?_
     refine Zcx ?_
     refine Zcy ?_
     refine Zcz ?_
     refine Zd0 ?_
     refine Zd1 ?_
     refine Zd2 ?_
     refine Zd3 ?_
     refine Zd4 ?_
     refine Zd5 ?_
     refine Zd6 ?_
     refine Zd7 ?_
     refine Zd8 ?_
     exact Zd9
    ·refine Zda ?_
     refine Zdb ?_
     refine Zdc ?_
     refine q13 (g:=21) rfl (fun hg6=>?_) (fun hg6=>?_)
     ·refine q31 (g:=21) 7 rfl Y1q (by decide) rfl rfl (fun G=>qd rfl (lk rfl rfl) rfl (by decide)) ?_
      refine q31 (g:=21) 8 rfl Y1q (by decide) rfl rfl (fun G=>qh (v:=.int _ _) rfl (lk rfl rfl) rfl rfl rfl) ?_
      refine q2l (g:=21) 9 rfl Y1q (by decide) rfl rfl (fun _=>qi (v:=.pl _) rfl) ?_
      refine Zdd ?_
      refine q2l (g:=21) 11 rfl Y1q (by decide) rfl rfl (fun _=>q30 (r:=((i-1:Nat):Int)) rfl rfl Y6) ?_
      refine q31 (g:=21) 12 rfl Y1q (by decide) rfl rfl (fun G=>q16 rfl rfl hr1 rfl) ?_
      refine q31 (g:=21) 13 rfl Y1q (by decide) rfl rfl (fun G=>q4m rfl (by decide)) ?_
      refine q31 (g:=21) 14 rfl Y1q (by decide) rfl rfl (fun G=>q29 (v:=.int _ _) rfl hr1 rfl) ?_
      refine q2l (g:=21) 15 rfl Y1q (by decide) rfl rfl (fun _=>o_le rfl rfl) ?_
      refine q2l (g:=18) 16 rfl Y1q (by decide) rfl rfl (fun _=>q1n (v:=.bool _) rfl rfl) ?_
      refine Zde ?_
      refine Zd2 ?_
      refine q13 (g:=33) rfl (fun hg18=>?_) (fun hg18=>?_)
      ·refine Zd3 ?_
       refine Zd4 ?_
       refine Zd5 ?_
       refine Zd6 ?_
       refine Zd7 ?_
       refine Zd8 ?_
       exact Zd9
      ·refine Zdf ?_
       refine Zdg ?_
       refine Zdh ?_
       refine Zdi ?_
       refine Zdj ?_
       refine Zdk ?_
       exact q1y Y1q Y1b (Out.mk (by (refine congrArg AV.bool ?_;(rw [hB2];clear hB hr1 hB2 hno0 hli;(simp_all;omega)))) Yb)
     ·refine Zdl ?_
      refine Zdm ?_
      refine Zdn ?_
      refine Zdo ?_
      refine Zdp ?_
      refine Zdq ?_
      refine Zdr ?_
      refine Zds ?_
      refine Zdt ?_
      refine Zdu ?_
      refine Zde ?_
      refine Zd2 ?_
      refine Zdf ?_
      refine Zdg ?_
      refine Zdh ?_
      refine Zdi ?_
      refine Zdj ?_
      refine Zdk ?_
      exact Zd9
   refine Z1 ?_
   refine qa rfl (fun hc=>?_) (fun hc=>?_)
   ·have hbad:qcl l i=false:=by simpa only [Bool.not_eq_true'] using hc
    refine Zf ?_
    rw [q48 hlt hbad]
    exact Zb
   ·have hgood:qcl l i=true:=by simpa only [Bool.not_eq_false'] using hc
    refine Z52 ?_
    refine ⟨i+1,by omega,⟨by omega,fun k hk=>?_⟩,Y8,Fit.loc hB (L:=[]) rfl Y1 (fun o ho=>by simp at ho)⟩
    rcases Nat.lt_or_eq_of_le (Nat.le_of_lt_succ hk) with h | h
    ·exact hno0 k h
    ·subst h;exact hgood
  ·rw [decide_eq_false h0,Bool.false_and,Bool.not_false,Bool.and_true] at hB2
   clear hh hhl
   refine Z1 ?_
   refine q20 39 (.bool (!qcl l i)) ?_ ?_
   ·refine Za0 ?_
    refine Zcl ?_
    refine Zcm ?_
    refine Zcn ?_
    refine Z7l ?_
    refine q13 (g:=18) rfl (fun hg3=>?_) (fun hg3=>?_)
    ·refine Zco ?_
     refine Zcp ?_
     refine Zcq ?_
     refine Zcr ?_
     refine Zcs ?_
     refine Zct ?_
     refine Zcu ?_
     refine Zcv ?_
     refine Zcw ?_
     refine Zcx ?_
     refine Zcy ?_
     refine Zcz ?_
     refine Zd0 ?_
     refine Zd1 ?_
     refine Zd2 ?_
     refine Zd3 ?_
     refine Zd4 ?_
     refine Zd5 ?_
     refine Zd6 ?_
     refine Zd7 ?_
     refine Zd8 ?_
     exact Zdv
    ·refine Zda ?_
     refine Zdb ?_
     refine Zdc ?_
     refine q13 (g:=21) rfl (fun hg6=>?_) (fun hg6=>?_)
     ·exfalso;simp at hg6;omega
     ·refine Zdl ?_
      refine Zdm ?_
      refine Zdn ?_
      refine Zdo ?_
      refine Zdp ?_
      refine Zdq ?_
      refine Zdr ?_
      refine Zds ?_
      refine Zdt ?_
      refine Zdu ?_
      refine Zde ?_
      refine Zd2 ?_
      refine Zdf ?_
      refine Zdg ?_
      refine Zdh ?_
      refine Zdi ?_
      refine Zdj ?_
      refine Zdk ?_
      exact Zdv
   refine Z1 ?_
   refine qa rfl (fun hc=>?_) (fun hc=>?_)
   ·have hbad:qcl l i=false:=by simpa only [Bool.not_eq_true'] using hc
    refine Zf ?_
    rw [q48 hlt hbad]
    exact Zb
   ·have hgood:qcl l i=true:=by simpa only [Bool.not_eq_false'] using hc
    refine Z52 ?_
    refine ⟨i+1,by omega,⟨by omega,fun k hk=>?_⟩,Y8,Fit.loc hB (L:=[]) rfl Y1 (fun o ho=>by simp at ho)⟩
    rcases Nat.lt_or_eq_of_le (Nat.le_of_lt_succ hk) with h | h
    ·exact hno0 k h
    ·subst h;exact hgood
 ·have:i=l.length:=by simp at hc;omega
  subst this
  refine Zf ?_
  rw [q4b hno]
  exact Zb
theorem qek (x:Held) (id:Int) (H:qf):AC Tryz.prog 191 [.agg (qj x),.int .i64 id] H (Ret (.int .i64 (qg9 x.id id)) H):=by
 refine AC.body (N:=9) [.tmp 4] Tryz.func191 rfl rfl rfl (Nat.le_of_ble_eq_true rfl) fun B hB=>?_
 refine Zc5 ?_
 refine Z3t ?_
 refine Z6c ?_
 refine Zdw ?_
 refine Z40 ?_
 exact Z20
set_option maxHeartbeats 0 in
theorem qlz (l:List Held) (id:Int) (H:qf) (hl:l.length≤1000000) (hs:l.Pairwise (fun a b=>a.id<b.id)) :
  AC Tryz.prog 190 [.pl (l.map qj),.int .i64 id,.fn (.func 191) [] []] H (Ret (.tup [.int .i64 (q2k l id:Int),.bool (q2w l id)]) H):=by
 have hle:=qu6 (f:=Held.id) l id
 refine AC.body (N:=49) [.tmp 6,.tmp 7] Tryz.func190 rfl rfl rfl (Nat.le_of_ble_eq_true rfl) fun B hB=>?_
 refine Z2 ?_
 refine Z6i ?_
 refine Z6r ?_
 refine Z4 ?_
 refine Z11 ?_
 refine Z3 ?_
 refine Z8l ?_
 refine qm (G:=LH) (fun g=>g.lo≤q91 Held.id l id∧q91 Held.id l id≤g.hi∧g.hi≤l.length) (fun g=>[(0,.pl (l.map qj)),(1,.int .i64 id),(2,.fn (.func 191) [] []),(8,.int .i64 ((l.map qj).length:Int)),(9,.int .i64 (g.lo:Int)),(10,.int .i64 (g.hi:Int))]) (fun _=>H++[]) (fun g=>g.hi-g.lo) ⟨0,(l.map qj).length⟩ ⟨Nat.zero_le _,by simp only [List.length_map];exact hle,by simp⟩ Y8 (Fit.refl _ _) ?_
 rintro ⟨lo,hi⟩ ⟨i1,i2,i3⟩
 simp only at i1 i2 i3 ⊢
 refine Z2o ?_
 refine qa rfl (fun hc=>?_) (fun hc=>?_)
 ·have hlt:lo<hi:=by simpa using hc
  obtain ⟨x,hx,hxl⟩:=qr (l:=l) (k:=(lo+hi) / 2) (by omega)
  have hr:=qk qj hx
  refine Z2k ?_
  refine Zdx ?_
  refine Zdy ?_
  refine Zdz ?_
  refine Ze0 ?_
  refine Z4 ?_
  refine Z1s ?_
  refine Zbr ?_
  refine Z9t ?_
  refine Z8 ?_
  refine qie (qek x id _) rfl rfl (by decide) ?_
  refine Z1f ?_
  refine qa rfl (fun hc=>?_) (fun hc=>?_)
  ·have hk:x.id<id:=by simp only [decide_eq_true_eq] at hc;unfold qg9 at hc;split at hc<;>first | assumption | (split at hc<;>omega)
   have hp:(lo+hi) / 2+1≤q91 Held.id l id:=by
    rcases Nat.lt_or_ge ((lo+hi) / 2) (q91 Held.id l id) with h | h
    ·omega
    ·have:=qdx hs h hx;omega
   refine Z6n ?_
   refine Ze1 ?_
   refine Za ?_
   exact ⟨⟨(lo+hi) / 2+1,hi⟩,by simp only;omega,⟨hp,i2,i3⟩,Y8,.refl _ _⟩
  ·have hk:id≤x.id:=by simp only [decide_eq_false_iff_not] at hc;unfold qg9 at hc;split at hc<;>first | (exfalso;exact hc (by decide)) | omega
   have hp:q91 Held.id l id≤(lo+hi) / 2:=by
    rcases Nat.lt_or_ge ((lo+hi) / 2) (q91 Held.id l id) with h | h
    ·have:=qid (f:=Held.id) h hx;omega
    ·exact h
   refine Z6n ?_
   refine Za ?_
   exact ⟨⟨lo,(lo+hi) / 2⟩,by simp only;omega,⟨i1,hp,by simp only;omega⟩,Y8,.refl _ _⟩
 ·have hlt:¬ lo<hi:=by simpa using hc
  obtain rfl:lo=q91 Held.id l id:=by omega
  have hml:(l.map qj).length=l.length:=by simp
  clear hc
  refine Z1 ?_
  refine q2x ([(6,.int .i64 (q2k l id:Int)),(7,.bool (q2w l id))]) (H++[]) ?_ ?_
  ·by_cases hn:q91 Held.id l id<l.length
   ·obtain ⟨x,hx,hxl⟩:=qr hn
    have hr:=qk qj hx
    have hh:q2w l id=(qg9 x.id id == 0):=by
     rw [q2w,show q2k l id=q91 Held.id l id from rfl,decide_eq_true hn,Bool.true_and,qhb hx,Bool.eq_iff_iff]
     unfold qg9
     simp only [decide_eq_true_eq,beq_iff_eq]
     split
     ·omega
     ·split<;>omega
    refine q18 ?_
    refine Z2r ?_
    refine Zw ?_
    refine qb rfl rfl (fun hg4=>?_) (fun hg4=>?_)
    ·refine Ze2 ?_
     refine Ze3 ?_
     refine Ze4 ?_
     refine Z9s ?_
     refine Zj ?_
     refine q6d rfl rfl (by decide) (V2.callv (qek x id _) rfl rfl) ?_
     refine Z3p ?_
     refine Zm ?_
     refine Z6i ?_
     (exact q1u Y4 (.inl rfl))
    ·refine Ze5 ?_
     refine Z6i ?_
     ((exfalso;simp at hg4;omega))
   ·have hh:q2w l id=false:=by rw [q2w,show q2k l id=q91 Held.id l id from rfl,decide_eq_false hn,Bool.false_and]
    refine q18 ?_
    refine Z2r ?_
    refine Zw ?_
    refine qb rfl rfl (fun hg4=>?_) (fun hg4=>?_)
    ·exfalso;simp at hg4;omega
    ·refine Ze5 ?_
     refine Z6i ?_
     (exact q1u Y4 (.inl rfl))
  exact Ze6
theorem qsv (l:List Held) (id:Int) (H:qf) (hl:l.length≤1000000) (hs:l.Pairwise (fun a b=>a.id<b.id)):AC Tryz.prog 155 [.pl (l.map qj),.int .i64 id] H (Ret (.tup [.int .i64 (q2k l id:Int),.bool (q2w l id)]) H):=by
 refine AC.body (N:=11) [.tmp 4,.tmp 5] Tryz.func155 rfl rfl rfl (Nat.le_of_ble_eq_true rfl) fun B hB=>?_
 refine Z2 ?_
 refine Z6i ?_
 refine Z90 ?_
 refine qu (qlz _ _ _ (by omega) Y1y) rfl (by decide) ?_
 refine Z6g ?_
 refine Z5o ?_
 exact Z5u
theorem qfg (h:Held) (H:qf) (hw:h.things.length≤1000000):AC Tryz.prog 156 [.agg (qj h)] H (Ret (.agg (qj h)) H):=by
 refine AC.body (N:=8) [.cell 2 95] Tryz.func156 rfl rfl rfl (Nat.le_of_ble_eq_true rfl) fun B hB=>?_
 refine Zc5 ?_
 refine Z72 ?_
 refine qe ?_
 refine Ze7 ?_
 refine Z4j ?_
 refine Z5y ?_
 refine Z2y ?_
 refine Ze8 ?_
 refine Z61 ?_
 refine Z3v ?_
 refine Zck ?_
 refine qe ?_
 refine Z6a ?_
 exact Ze9
theorem qy1 (l:List Held) (id:Int) (H:qf) (hw:HW l):AC Tryz.prog 115 [.pl (l.map qj),.int .i64 id] H (Ret (.tup [.agg (qj (q2d l id).1),.bool (q2d l id).2]) H):=by
 have hw1:=hw.1
 refine AC.body (N:=26) [.cell 4 95,.tmp 5] Tryz.func115 rfl rfl rfl (Nat.le_of_ble_eq_true rfl) fun B hB=>?_
 refine Z2 ?_
 refine Z72 ?_
 refine Z1n ?_
 refine Z73 ?_
 refine Z45 ?_
 refine Zea ?_
 refine Z3x ?_
 refine qa rfl (fun hc=>?_) (fun hc=>?_)
 ·have hno:q2a l=false:=by simpa only [Bool.not_eq_true'] using hc
  rw [show q2d l id=(ql6,false) by rw [q2d,hno];rfl]
  refine Z2 ?_
  refine Zeb ?_
  refine Zck ?_
  refine Z1n ?_
  exact Zed
 have hyes:q2a l=true:=by simpa only [Bool.not_eq_false'] using hc
 have hs:=q8r hyes
 refine Z90 ?_
 refine Zee ?_
 refine Zef ?_
 refine qa rfl (fun hc=>?_) (fun hc=>?_)
 ·have hno:q2w l id=false:=by simpa only [Bool.not_eq_true'] using hc
  rw [show q2d l id=(ql6,false) by rw [q2d,hyes,hno];rfl]
  refine Z2 ?_
  refine Zeb ?_
  refine Zck ?_
  refine Z1n ?_
  exact Zed
 have hhit:q2w l id=true:=by simpa only [Bool.not_eq_false'] using hc
 have hn:q2k l id<l.length:=by simp only [q2w,Bool.and_eq_true,decide_eq_true_eq] at hhit;exact hhit.1
 obtain ⟨x,hx,hxl⟩:=qr hn
 have hr:=qk qj hx
 have hxw:=hw.2 x hxl
 rw [show q2d l id=(x,true) by rw [q2d,hyes,hhit,qch hx];rfl]
 refine Z90 ?_
 refine Z9t ?_
 refine Zeg ?_
 refine Zck ?_
 refine Z1n ?_
 refine Z7a ?_
 exact Z6p
theorem qd5 (x:Job) (id:Int) (H:qf):AC Tryz.prog 150 [.agg (qx x),.int .i64 id] H (Ret (.int .i64 (qg9 x.id id)) H):=by
 refine AC.body (N:=9) [.tmp 4] Tryz.func150 rfl rfl rfl (Nat.le_of_ble_eq_true rfl) fun B hB=>?_
 refine Z4g ?_
 refine Z3t ?_
 refine Z6c ?_
 refine Zdw ?_
 refine Z40 ?_
 exact Z20
set_option maxHeartbeats 0 in
theorem qj8 (l:List Job) (id:Int) (H:qf) (hl:l.length≤1000000) (hs:l.Pairwise (fun a b=>a.id<b.id)) :
  AC Tryz.prog 149 [.pl (l.map qx),.int .i64 id,.fn (.func 150) [] []] H (Ret (.tup [.int .i64 (q1g l id:Int),.bool (q2u l id)]) H):=by
 have hle:=qu6 (f:=Job.id) l id
 refine AC.body (N:=49) [.tmp 6,.tmp 7] Tryz.func149 rfl rfl rfl (Nat.le_of_ble_eq_true rfl) fun B hB=>?_
 refine Z2 ?_
 refine Z6i ?_
 refine Z6r ?_
 refine Z4 ?_
 refine Z11 ?_
 refine Z3 ?_
 refine Z8l ?_
 refine qm (G:=LH) (fun g=>g.lo≤q91 Job.id l id∧q91 Job.id l id≤g.hi∧g.hi≤l.length) (fun g=>[(0,.pl (l.map qx)),(1,.int .i64 id),(2,.fn (.func 150) [] []),(8,.int .i64 ((l.map qx).length:Int)),(9,.int .i64 (g.lo:Int)),(10,.int .i64 (g.hi:Int))]) (fun _=>H++[]) (fun g=>g.hi-g.lo) ⟨0,(l.map qx).length⟩ ⟨Nat.zero_le _,by simp only [List.length_map];exact hle,by simp⟩ Y8 (Fit.refl _ _) ?_
 rintro ⟨lo,hi⟩ ⟨i1,i2,i3⟩
 simp only at i1 i2 i3 ⊢
 refine Z2o ?_
 refine qa rfl (fun hc=>?_) (fun hc=>?_)
 ·have hlt:lo<hi:=by simpa using hc
  obtain ⟨x,hx,hxl⟩:=qr (l:=l) (k:=(lo+hi) / 2) (by omega)
  have hr:=qk qx hx
  refine Z2k ?_
  refine Zdx ?_
  refine Zdy ?_
  refine Zdz ?_
  refine Ze0 ?_
  refine Z4 ?_
  refine Z1s ?_
  refine Zbr ?_
  refine Z9t ?_
  refine Z8 ?_
  refine qie (qd5 x id _) rfl rfl (by decide) ?_
  refine Z1f ?_
  refine qa rfl (fun hc=>?_) (fun hc=>?_)
  ·have hk:x.id<id:=by simp only [decide_eq_true_eq] at hc;unfold qg9 at hc;split at hc<;>first | assumption | (split at hc<;>omega)
   have hp:(lo+hi) / 2+1≤q91 Job.id l id:=by
    rcases Nat.lt_or_ge ((lo+hi) / 2) (q91 Job.id l id) with h | h
    ·omega
    ·have:=qdx hs h hx;omega
   refine Z6n ?_
   refine Ze1 ?_
   refine Za ?_
   exact ⟨⟨(lo+hi) / 2+1,hi⟩,by simp only;omega,⟨hp,i2,i3⟩,Y8,.refl _ _⟩
  ·have hk:id≤x.id:=by simp only [decide_eq_false_iff_not] at hc;unfold qg9 at hc;split at hc<;>first | (exfalso;exact hc (by decide)) | omega
   have hp:q91 Job.id l id≤(lo+hi) / 2:=by
    rcases Nat.lt_or_ge ((lo+hi) / 2) (q91 Job.id l id) with h | h
    ·have:=qid (f:=Job.id) h hx;omega
    ·exact h
   refine Z6n ?_
   refine Za ?_
   exact ⟨⟨lo,(lo+hi) / 2⟩,by simp only;omega,⟨i1,hp,by simp only;omega⟩,Y8,.refl _ _⟩
 ·have hlt:¬ lo<hi:=by simpa using hc
  obtain rfl:lo=q91 Job.id l id:=by omega
  have hml:(l.map qx).length=l.length:=by simp
  clear hc
  refine Z1 ?_
  refine q2x ([(6,.int .i64 (q1g l id:Int)),(7,.bool (q2u l id))]) (H++[]) ?_ ?_
  ·by_cases hn:q91 Job.id l id<l.length
   ·obtain ⟨x,hx,hxl⟩:=qr hn
    have hr:=qk qx hx
    have hh:q2u l id=(qg9 x.id id == 0):=by
     rw [q2u,show q1g l id=q91 Job.id l id from rfl,decide_eq_true hn,Bool.true_and,qle hx,Bool.eq_iff_iff]
     unfold qg9
     simp only [decide_eq_true_eq,beq_iff_eq]
     split
     ·omega
     ·split<;>omega
    refine q18 ?_
    refine Z2r ?_
    refine Zw ?_
    refine qb rfl rfl (fun hg4=>?_) (fun hg4=>?_)
    ·refine Ze2 ?_
     refine Ze3 ?_
     refine Ze4 ?_
     refine Z9s ?_
     refine Zj ?_
     refine q6d rfl rfl (by decide) (V2.callv (qd5 x id _) rfl rfl) ?_
     refine Z3p ?_
     refine Zm ?_
     refine Z6i ?_
     (exact q1u Y4 (.inl rfl))
    ·refine Ze5 ?_
     refine Z6i ?_
     ((exfalso;simp at hg4;omega))
   ·have hh:q2u l id=false:=by rw [q2u,show q1g l id=q91 Job.id l id from rfl,decide_eq_false hn,Bool.false_and]
    refine q18 ?_
    refine Z2r ?_
    refine Zw ?_
    refine qb rfl rfl (fun hg4=>?_) (fun hg4=>?_)
    ·exfalso;simp at hg4;omega
    ·refine Ze5 ?_
     refine Z6i ?_
     (exact q1u Y4 (.inl rfl))
  exact Ze6
theorem qrh (l:List Job) (id:Int) (H:qf) (hl:l.length≤1000000) (hs:l.Pairwise (fun a b=>a.id<b.id)):AC Tryz.prog 110 [.pl (l.map qx),.int .i64 id] H (Ret (.tup [.int .i64 (q1g l id:Int),.bool (q2u l id)]) H):=by
 refine AC.body (N:=11) [.tmp 4,.tmp 5] Tryz.func110 rfl rfl rfl (Nat.le_of_ble_eq_true rfl) fun B hB=>?_
 refine Z2 ?_
 refine Z6i ?_
 refine Z90 ?_
 refine qu (qj8 _ _ _ (by omega) Y1y) rfl (by decide) ?_
 refine Z6g ?_
 refine Z5o ?_
 exact Z5u
theorem qdj (l:List Job):∀ r∈l.map qx,r.length=13:=q5a (e:=qx) (n:=13) (fun _=>rfl) l
theorem q2b (n:Nat) (l:List Job):∀ r∈l.map qx,AV.bels n r=true:=q5z (e:=qx) (fun _=>rfl) l
set_option maxHeartbeats 0 in
theorem qej (l:List Job) (H:qf) (hl:l.length≤1000000):AC Tryz.prog 67 [.pl (l.map qx)] H (Ret (.bool (q2v l)) H):=by
 refine AC.body (N:=67) [.tmp 2] Tryz.func67 rfl rfl rfl (Nat.le_of_ble_eq_true rfl) fun B hB=>?_
 refine Z6s ?_
 refine Z2q ?_
 refine qa rfl (fun hc=>?_) (fun hc=>?_)
 ·have h64:¬ l.length≤64:=by simp at hc;omega
  refine Zf ?_
  rw [show q2v l=false by rw [q2v,decide_eq_false h64,Bool.false_and]]
  exact Zb
 have h64:l.length≤64:=by simp at hc;omega
 rw [show q2v l=qmm (qn5 l) l.length by rw [q2v,decide_eq_true h64,Bool.true_and]]
 refine Z76 ?_
 refine qm (G:=Nat) (fun i=>i≤l.length∧∀ k,k<i→qn5 l k=true) (fun i=>[(0,.pl (l.map qx)),(12,.pl (l.map qx)),(13,.int .i64 (l.length:Int)),(14,.int .i64 (i:Int))]) (fun _=>H++[]) (fun i=>l.length-i) 0 ⟨Nat.zero_le _,fun k hk=>by omega⟩ Y8 (Fit.refl _ _) ?_
 rintro i ⟨hi,hno⟩
 refine Z4r ?_
 refine qa rfl (fun hc=>?_) (fun hc=>?_)
 ·have hlt:i<l.length:=by simp at hc;omega
  obtain ⟨j,hj,hjl⟩:=qr hlt
  have hr:=qk qx hj
  have hB2:=qx9 hj
  have hno0:=hno
  have hli:((l.map qx).take i)=(l.take i).map qx:=by rw [List.map_take]
  have hs:=qda h64 hno
  have htl:(l.take i).length≤1000000:=by rw [List.length_take];omega
  clear hno hc
  refine Z9u ?_
  refine Z5w ?_
  refine Z3 ?_
  refine Z67 ?_
  refine Z9y ?_
  clear hr
  refine Z1 ?_
  refine q2x ([(0,.pl (l.map qx)),(3,.int .i64 (i:Int)),(4,.pt (Lid H.length 0) 0 0 0),(12,.pl (l.map qx)),(13,.int .i64 (l.length:Int)),(14,.int .i64 (i:Int)),(47,.bool (!(q28 j&&!(decide (0<i)&&(decide (j.id≤qe6 l (i-1))||decide (j.came<(q37 l (i-1)).came))))))]) (H++[⟨0,13,[qx j]⟩]) ?_ ?_
  ·by_cases h0:0<i
   ·obtain ⟨h1,hh1,_⟩:=qr (l:=l) (k:=i-1) (by omega)
    have hr1:=qk qx hh1
    rw [qle hh1,q1z hh1,decide_eq_true h0,Bool.true_and]
    clear hB2 hno0 hj hjl hs hh1
    refine q20 47 (.bool (!(q28 j&&!((decide (j.id≤h1.id)||decide (j.came<h1.came)))))) ?_ ?_
    ·refine Za0 ?_
     refine Zcl ?_
     refine Zeh ?_
     refine Zcn ?_
     refine Z7l ?_
     refine q13 (g:=22) rfl (fun hg3=>?_) (fun hg3=>?_)
     ·refine Zei ?_
      refine Zej ?_
      refine Zek ?_
      refine Zel ?_
      refine Zem ?_
      refine Zen ?_
      refine Zeo ?_
      refine Zep ?_
      refine Zeq ?_
      refine Zer ?_
      refine Zes ?_
      refine Zet ?_
      refine Z95 ?_
      refine Zeu ?_
      refine Zev ?_
      refine Zew ?_
      refine Zex ?_
      refine Zey ?_
      refine Zez ?_
      refine Zf0 ?_
      refine Zf1 ?_
      refine Zf2 ?_
      refine Zf3 ?_
      refine Zf4 ?_
      refine Zf5 ?_
      exact Zf6
     ·refine Zf7 ?_
      refine Zf8 ?_
      refine Zf9 ?_
      refine q13 (g:=25) rfl (fun hg6=>?_) (fun hg6=>?_)
      ·refine q31 (g:=25) 7 rfl Y1q (by decide) rfl rfl (fun G=>qd rfl (lk rfl rfl) rfl (by decide)) ?_
       refine q31 (g:=25) 8 rfl Y1q (by decide) rfl rfl (fun G=>qh (v:=.int _ _) rfl (lk rfl rfl) rfl rfl rfl) ?_
       refine q2l (g:=25) 9 rfl Y1q (by decide) rfl rfl (fun _=>qi (v:=.pl _) rfl) ?_
       refine q2l (g:=25) 10 rfl Y1q (by decide) rfl rfl (fun _=>qi (v:=.int _ _) rfl) ?_
       refine q2l (g:=25) 11 rfl Y1q (by decide) rfl rfl (fun _=>q30 (r:=((i-1:Nat):Int)) rfl rfl Y6) ?_
       refine q31 (g:=25) 12 rfl Y1q (by decide) rfl rfl (fun G=>q16 rfl rfl hr1 rfl) ?_
       refine q31 (g:=25) 13 rfl Y1q (by decide) rfl rfl (fun G=>q4m rfl (by decide)) ?_
       refine q31 (g:=25) 14 rfl Y1q (by decide) rfl rfl (fun G=>q29 (v:=.int _ _) rfl hr1 rfl) ?_
       refine q2l (g:=25) 15 rfl Y1q (by decide) rfl rfl (fun _=>o_le rfl rfl) ?_
       refine q2l (g:=25) 16 rfl Y1q (by decide) rfl rfl (fun _=>qi (v:=.bool _) rfl) ?_
       refine q13 (g:=35) rfl (fun hg16=>?_) (fun hg16=>?_)
       ·refine q15 (g:=35) 17 rfl Y1q (by decide) rfl rfl rfl ?_
        refine q15 (g:=35) 18 rfl Y1q (by decide) rfl rfl rfl ?_
        refine q15 (g:=35) 19 rfl Y1q (by decide) rfl rfl rfl ?_
        refine q15 (g:=35) 20 rfl Y1q (by decide) rfl rfl rfl ?_
        refine q15 (g:=35) 21 rfl Y1q (by decide) rfl rfl rfl ?_
        refine q15 (g:=35) 22 rfl Y1q (by decide) rfl rfl rfl ?_
        refine q15 (g:=35) 23 rfl Y1q (by decide) rfl rfl rfl ?_
        refine q15 (g:=35) 24 rfl Y1q (by decide) rfl rfl rfl ?_
        refine q15 (g:=35) 25 rfl Y1q (by decide) rfl rfl rfl ?_
        refine q2l (g:=25) 26 rfl Y1q (by decide) rfl rfl (fun _=>q1n (v:=.bool _) rfl rfl) ?_
        refine Zfa ?_
        refine Zfb ?_
        exact Zf6
       ·refine q31 (g:=35) 17 rfl Y1q (by decide) rfl rfl (fun G=>qd rfl (lk rfl rfl) rfl (by decide)) ?_
        refine q31 (g:=35) 18 rfl Y1q (by decide) rfl rfl (fun G=>qh (v:=.int _ _) rfl (lk rfl rfl) rfl rfl rfl) ?_
        refine q2l (g:=35) 19 rfl Y1q (by decide) rfl rfl (fun _=>qi (v:=.pl _) rfl) ?_
        refine q2l (g:=35) 20 rfl Y1q (by decide) rfl rfl (fun _=>qi (v:=.int _ _) rfl) ?_
        refine q2l (g:=35) 21 rfl Y1q (by decide) rfl rfl (fun _=>q30 (r:=((i-1:Nat):Int)) rfl rfl Y6) ?_
        refine q31 (g:=35) 22 rfl Y1q (by decide) rfl rfl (fun G=>q16 rfl rfl hr1 rfl) ?_
        refine q31 (g:=35) 23 rfl Y1q (by decide) rfl rfl (fun G=>q4m rfl (by decide)) ?_
        refine q31 (g:=35) 24 rfl Y1q (by decide) rfl rfl (fun G=>q29 (v:=.int _ _) rfl hr1 rfl) ?_
        refine q2l (g:=35) 25 rfl Y1q (by decide) rfl rfl (fun _=>qwh rfl rfl) ?_
        refine q2l (g:=25) 26 rfl Y1q (by decide) rfl rfl (fun _=>q1m (v:=.bool _) rfl rfl) ?_
        refine Zfa ?_
        refine Zfb ?_
        exact q1y Y1q Y1b (Out.mk (by (refine congrArg AV.bool ?_;(clear hB hr1 hli;(simp_all;omega)))) Yb)
      ·refine Zfc ?_
       refine Zfd ?_
       refine Zfe ?_
       refine Zff ?_
       refine Zfg ?_
       refine Zfh ?_
       refine Zfi ?_
       refine Zfj ?_
       refine Zfk ?_
       refine Z9j ?_
       refine Zeu ?_
       refine Zev ?_
       refine Zew ?_
       refine Zex ?_
       refine Zey ?_
       refine Zez ?_
       refine Zf0 ?_
       refine Zf1 ?_
       refine Zf2 ?_
       refine Zfl ?_
       refine Zfm ?_
       refine Zfb ?_
       exact Zf6
    exact q1u Y8 (.inl rfl)
   ·rw [decide_eq_false h0,Bool.false_and,Bool.not_false,Bool.and_true]
    clear hB2 hno0 hj hjl hs
    refine q20 47 (.bool (!q28 j)) ?_ ?_
    ·refine Za0 ?_
     refine Zcl ?_
     refine Zeh ?_
     refine Zcn ?_
     refine Z7l ?_
     refine q13 (g:=22) rfl (fun hg3=>?_) (fun hg3=>?_)
     ·refine Zei ?_
      refine Zej ?_
      refine Zek ?_
      refine Zel ?_
      refine Zem ?_
      refine Zen ?_
      refine Zeo ?_
      refine Zep ?_
      refine Zeq ?_
      refine Zer ?_
      refine Zes ?_
      refine Zet ?_
      refine Z95 ?_
      refine Zeu ?_
      refine Zev ?_
      refine Zew ?_
      refine Zex ?_
      refine Zey ?_
      refine Zez ?_
      refine Zf0 ?_
      refine Zf1 ?_
      refine Zf2 ?_
      refine Zf3 ?_
      refine Zf4 ?_
      refine Zf5 ?_
      exact Zfn
     ·refine Zf7 ?_
      refine Zf8 ?_
      refine Zf9 ?_
      refine q13 (g:=25) rfl (fun hg6=>?_) (fun hg6=>?_)
      ·exfalso;simp at hg6;omega
      ·refine Zfc ?_
       refine Zfd ?_
       refine Zfe ?_
       refine Zff ?_
       refine Zfg ?_
       refine Zfh ?_
       refine Zfi ?_
       refine Zfj ?_
       refine Zfk ?_
       refine Z9j ?_
       refine Zeu ?_
       refine Zev ?_
       refine Zew ?_
       refine Zex ?_
       refine Zey ?_
       refine Zez ?_
       refine Zf0 ?_
       refine Zf1 ?_
       refine Zf2 ?_
       refine Zfl ?_
       refine Zfm ?_
       refine Zfb ?_
       exact Zfn
    exact q1u Y8 (.inl rfl)
  refine Z1 ?_
  refine qa rfl (fun hc=>?_) (fun hc=>?_)
  ·have hbad:qn5 l i=false:=by rw [hB2];rw [Bool.not_eq_true'] at hc;rw [hc,Bool.false_and]
   refine Zf ?_
   rw [q48 hlt hbad]
   exact Zb
  have hgd:(q28 j&&!(decide (0<i)&&(decide (j.id≤qe6 l (i-1))||decide (j.came<(q37 l (i-1)).came))))=true:=by simpa only [Bool.not_eq_false'] using hc
  have hjr:q28 j=true:=by rw [Bool.and_eq_true] at hgd;exact hgd.1
  have hn16:=qj9 hjr
  rw [hgd,Bool.true_and] at hB2
  clear hc hgd
  refine Z4j ?_
  refine Z4q ?_
  refine qm (G:=Nat) (fun k=>k≤j.needs.length∧∀ n∈j.needs.take k,q2u (l.take i) n=true) (fun k=>[(0,.pl (l.map qx)),(3,.int .i64 (i:Int)),(12,.pl (l.map qx)),(13,.int .i64 (l.length:Int)),(14,.int .i64 (i:Int)),(49,.pl (j.needs.map eI)),(50,.int .i64 (j.needs.length:Int)),(51,.int .i64 (k:Int))]) (fun _=>H++[⟨0,13,[qx j]⟩]) (fun k=>j.needs.length-k) 0 ⟨Nat.zero_le _,by simp⟩ Y8 (Fit.refl _ _) ?_
  rintro k ⟨hk,hhit⟩
  refine Z4r ?_
  refine qa rfl (fun hc=>?_) (fun hc=>?_)
  ·have hltk:k<j.needs.length:=by simpa using hc
   obtain ⟨n,hn,hnl⟩:=qr hltk
   have hr:=qk eI hn
   refine Zfo ?_
   refine Z90 ?_
   refine ao1 (by decide) (qbk (ys:=(l.take i).map qx) rfl (Bd.some rfl rfl) Y1x (qdj _) hli) ?_
   refine Z8 ?_
   refine Zfp ?_
   refine Zef ?_
   refine qa rfl (fun hc=>?_) (fun hc=>?_)
   ·have hbad:qn5 l i=false:=by
     rw [hB2,List.all_eq_false]
     exact ⟨n,hnl,by simpa using hc⟩
    refine Zf ?_
    rw [q48 hlt hbad]
    exact Zb
   ·refine Z52 ?_
    refine ⟨k+1,by omega,⟨by omega,?_⟩,Y8,.refl _ _⟩
    rw [ql hn]
    intro y hy
    rcases List.mem_append.1 hy with h | h
    ·exact hhit y h
    ·simp only [List.mem_singleton] at h
     subst h
     simpa using hc
  ·have:k=j.needs.length:=by simp at hc;omega
   subst this
   rw [List.take_length] at hhit
   have hgood:qn5 l i=true:=by rw [hB2,List.all_eq_true];exact hhit
   refine Z52 ?_
   refine ⟨i+1,by omega,⟨by omega,fun k hk=>?_⟩,Y8,Fit.loc hB (L:=[]) rfl Y1 (fun o ho=>by simp at ho)⟩
   rcases Nat.lt_or_eq_of_le (Nat.le_of_lt_succ hk) with h | h
   ·exact hno0 k h
   ·subst h;exact hgood
 ·have:i=l.length:=by simp at hc;omega
  subst this
  refine Zf ?_
  rw [q4b hno]
  exact Zb
theorem qn2 (p d:Int) (H:qf):AC Tryz.prog 60 [.int .i64 p,.int .i64 d] H (Ret (.bool (q7x p d)) H):=by
 refine AC.body (N:=19) [.tmp 4] Tryz.func60 rfl rfl rfl (Nat.le_of_ble_eq_true rfl) fun B hB=>?_
 refine Zf ?_
 refine qq 4 (.bool (q7x p d)) ?_ ?_
 ·refine Z8 ?_
  refine Z21 ?_
  refine qb rfl rfl (fun hg2=>?_) (fun hg2=>?_)
  ·refine Zj ?_
   refine Zx ?_
   refine Z34 ?_
   refine qb rfl rfl (fun hg6=>?_) (fun hg6=>?_)
   ·refine Zj ?_
    refine Z24 ?_
    refine Z34 ?_
    refine qb rfl rfl (fun hg10=>?_) (fun hg10=>?_)
    ·refine Zj ?_
     refine Zy ?_
     exact qe (Out.mk (by (refine congrArg AV.bool ?_;(simp only [q7x];clear hB;(simp_all;done)))) Yb)
    ·refine Zt ?_
     exact Zfq
   ·refine Z5n ?_
    refine Zt ?_
    exact Zfq
  ·refine Z5n ?_
   refine Z5n ?_
   refine Zt ?_
   exact Zfq
 exact Z20
theorem qdv (g:List Thing) (l:List Int) (H:qf) (hg:g.length≤1000000) (hl:l.length≤1000000):AC Tryz.prog 65 [.pl (g.map qw),.pl (l.map q35)] H (Ret (.bool (q2r g l)) H):=by
 refine AC.body (N:=23) [.tmp 4] Tryz.func65 rfl rfl rfl (Nat.le_of_ble_eq_true rfl) fun B hB=>?_
 refine Z1o ?_
 by_cases h0:l.length=0
 ·refine Z1 ?_
  refine qq 4 (.bool (q2r g l)) ?_ ?_
  ·refine Z44 ?_
   refine Zfr ?_
   refine Zh ?_
   refine qb rfl rfl (fun hg2=>?_) (fun hg2=>?_)
   ·refine Z9r ?_
    refine Z3p ?_
    refine Z25 ?_
    refine qb rfl rfl (fun hg6=>?_) (fun hg6=>?_)
    ·refine Z4w ?_
     refine Z3b ?_
     refine Z3c ?_
     refine Z26 ?_
     refine Zn ?_
     exact Zfs
    ·exfalso;have:=List.eq_nil_of_length_eq_zero h0;subst this;simp at hg6
   ·refine Z29 ?_
    refine Zbk ?_
    refine Zbk ?_
    refine Z2b ?_
    refine Z5e ?_
    exact Zfs
  exact Z20
 ·obtain ⟨x,hx,hxl⟩:=qr (l:=l) (k:=l.length-1) (by omega)
  have hr:=qk q35 hx
  have hd:l.getD (l.length-1) 0=x:=by rw [List.getD_eq_getElem?_getD,hx];rfl
  have hs:q2r g l=(sok l&&decide (x<(g.length:Int))):=by rw [q2r,hd,decide_eq_false h0,Bool.false_or]
  rw [hs]
  refine Z1 ?_
  refine qq 4 (.bool (sok l&&decide (x<(g.length:Int)))) ?_ ?_
  ·refine Z44 ?_
   refine Zfr ?_
   refine Zh ?_
   refine qb rfl rfl (fun hg2=>?_) (fun hg2=>?_)
   ·refine Z9r ?_
    refine Z3p ?_
    refine Z25 ?_
    refine qb rfl rfl (fun hg6=>?_) (fun hg6=>?_)
    ·refine Z4w ?_
     refine Z3b ?_
     refine Z3c ?_
     refine Z26 ?_
     refine Zn ?_
     exact Zft
    ·refine Z9p ?_
     refine Z9r ?_
     refine q1j rfl rfl (by decide) (q30 (r:=((l.length-1:Nat):Int)) rfl rfl (by rw [List.length_map,show (l.length:Int)-1=((l.length-1:Nat):Int) by omega];exact qc (by omega) (by omega))) ?_
     refine Ze4 ?_
     refine Zfu ?_
     refine Z9r ?_
     refine Zk ?_
     refine Z2a ?_
     refine Zn ?_
     exact Zft
   ·refine Z29 ?_
    refine Zbk ?_
    refine Zbk ?_
    refine Z2b ?_
    refine Z5e ?_
    exact Zft
  exact Z20
abbrev q1l (i:Inst):List AV:=[.pl (i.graph.map qw),.pl (i.health.map eI),.pl (i.lease.map eI),.int .i64 i.til,.pl (i.jobs.map qx),.pl (i.table.map qj),.int .i64 i.now,.int .i64 i.policy,.int .i64 i.depth]
set_option maxHeartbeats 0 in
theorem qwb (i:Inst) (H:qf) (hw:IW i):AC Tryz.prog 69 [.agg (q1l i)] H (Ret (.bool (q9l i)) H):=by
 have w1:=hw.graph
 have w2:=hw.jobs
 have w3:=hw.table
 refine AC.body (N:=80) [.tmp 2] Tryz.func69 rfl rfl rfl (Nat.le_of_ble_eq_true rfl) fun B hB=>?_
 refine Zfw ?_
 refine Z2w ?_
 refine Z5 ?_
 refine Z4j ?_
 refine Z4q ?_
 refine qm (G:=Nat) (fun k=>k≤i.jobs.length∧∀ m,m<k→qcz i m=true) (fun k=>[(1,.pt (Lid H.length 0) 0 0 0),(3,.int .i64 (qwo (i.jobs.take k):Int)),(9,.pl (i.jobs.map qx)),(10,.int .i64 (i.jobs.length:Int)),(11,.int .i64 (k:Int))]) (fun _=>H++[⟨0,9,[q1l i]⟩]) (fun k=>i.jobs.length-k) 0 ⟨Nat.zero_le _,fun m hm=>by omega⟩ Y8 (Fit.refl _ _) ?_
 rintro k ⟨hk,hno⟩
 have hbel:∀ (b:Nat),∀ o∈[AObj.mk 0 9 [q1l i]],∀ r∈o.rows,AV.bels b r=true:=by
  intro b o ho r hr
  simp only [List.mem_singleton] at ho
  subst ho
  simp only [List.mem_singleton] at hr
  subst hr
  rfl
 refine Z4r ?_
 refine qa rfl (fun hc=>?_) (fun hc=>?_)
 ·have hlt:k<i.jobs.length:=by simp at hc;omega
  obtain ⟨j,hj,hjl⟩:=qr hlt
  have hr:=qk qx hj
  have hB2:=q7a hj
  have hstep:=qul hj
  have hrl:=q11v (i.jobs.take k)
  rw [List.length_take] at hrl
  have hno0:=hno
  have hget:=qm6 w3 j.id
  clear hno hc
  refine Zfz ?_
  refine Zbh ?_
  clear hr
  refine Z1 ?_
  refine qq 26 (.bool (!(decide (j.came≤i.now)&&decide (j.frm≤i.now)))) ?_ ?_
  ·refine Zce ?_
   refine Z2p ?_
   refine Zh ?_
   refine qb rfl rfl (fun hg5=>?_) (fun hg5=>?_)
   ·refine Z3b ?_
    refine Z3n ?_
    exact qe (Out.mk (by (refine congrArg AV.bool ?_;(clear hB hB2 hstep hno0 hget hrl hbel;(simp_all;done)))) Yb)
   ·refine Z55 ?_
    refine Z3f ?_
    refine Zr ?_
    exact qe (Out.mk (by (refine congrArg AV.bool ?_;(clear hB hB2 hstep hno0 hget hrl hbel;grind))) Yb)
  refine Z1 ?_
  refine qa rfl (fun hc=>?_) (fun hc=>?_)
  ·have hbad:qcz i k=false:=by rw [Bool.not_eq_true'] at hc;rw [hB2,hc,Bool.false_and]
   refine Zf ?_
   rw [show q9l i=false by rw [q9l,q48 hlt hbad,Bool.false_and]]
   exact Zb
  have h1:(decide (j.came≤i.now)&&decide (j.frm≤i.now))=true:=by simpa only [Bool.not_eq_false'] using hc
  rw [h1,Bool.true_and] at hB2
  clear hc
  refine Z58 ?_
  refine Z2l ?_
  refine Z4m ?_
  refine qa rfl (fun hc=>?_) (fun hc=>?_)
  ·have h2:j.state≠2:=by simpa using hc
   rw [decide_eq_true h2,Bool.true_or] at hB2
   rw [if_neg (by simpa using h2),Nat.add_zero] at hstep
   refine Z52 ?_
   refine ⟨k+1,by omega,⟨by omega,fun m hm=>?_⟩,by rw [hstep];exact Y8,Fit.loc hB rfl Y1 (hbel _)⟩
   rcases Nat.lt_or_eq_of_le (Nat.le_of_lt_succ hm) with h | h
   ·exact hno0 m h
   ·subst h;exact hB2
  have h2:j.state=2:=by simpa using hc
  rw [if_pos (by simpa using h2)] at hstep
  rw [show decide (j.state≠2)=false by simp [h2],Bool.false_or] at hB2
  refine Z11 ?_
  refine ao1 (by decide) (q1x (r:=((qwo (i.jobs.take k)+1:Nat):Int)) rfl rfl (by rw [show (qwo (i.jobs.take k):Int)+1=((qwo (i.jobs.take k)+1:Nat):Int) by omega];exact qc (by omega) (by omega))) ?_
  refine Z4 ?_
  refine Z4j ?_
  refine Z30 ?_
  refine qu (qy1 _ _ _ Y1y) rfl (by decide) ?_
  refine Z7h ?_
  refine Zg0 ?_
  refine Z1n ?_
  refine Zg1 ?_
  generalize q2d i.table j.id=q at hB2 hget ⊢
  obtain ⟨h,ok⟩:=q
  simp only at hB2 hget
  clear hj hjl
  refine Z1 ?_
  refine q20 73 (.bool (!qcz i k)) ?_ ?_
  ·refine Zg2 ?_
   refine Z7x ?_
   refine Z7y ?_
   refine aq0 1 rfl Y1q (by decide) (fun _=>qc1 rfl) ?_
   refine Z7k ?_
   refine q13 (g:=42) rfl (fun hg2=>?_) (fun hg2=>?_)
   ·refine q15 (g:=42) 3 rfl Y1q (by decide) rfl rfl rfl ?_
    refine q15 (g:=42) 4 rfl Y1q (by decide) rfl rfl rfl ?_
    refine q15 (g:=42) 5 rfl Y1q (by decide) rfl rfl rfl ?_
    refine q15 (g:=42) 6 rfl Y1q (by decide) rfl rfl rfl ?_
    refine q15 (g:=42) 7 rfl Y1q (by decide) rfl rfl rfl ?_
    refine Za8 ?_
    refine Za9 ?_
    refine Zg3 ?_
    refine Zg4 ?_
    refine Zg5 ?_
    refine Zg6 ?_
    refine Zg7 ?_
    refine Zg8 ?_
    refine Zg9 ?_
    refine Zga ?_
    refine Zgb ?_
    refine Zgc ?_
    refine Zgd ?_
    refine Zge ?_
    refine Zgf ?_
    refine Zgg ?_
    refine Zgh ?_
    refine Zgi ?_
    refine Zgj ?_
    refine Zgk ?_
    refine Zgl ?_
    refine Zgm ?_
    refine Zgn ?_
    refine Zgo ?_
    refine Zgp ?_
    refine Zgq ?_
    exact Zgr
   ·refine q31 (g:=42) 3 rfl Y1q (by decide) rfl rfl (fun G=>qd rfl (lk rfl rfl) rfl (by decide)) ?_
    refine q31 (g:=42) 4 rfl Y1q (by decide) rfl rfl (fun G=>qh (v:=.int _ _) rfl (lk rfl rfl) rfl rfl rfl) ?_
    refine q31 (g:=42) 5 rfl Y1q (by decide) rfl rfl (fun G=>qd rfl (lk rfl rfl) rfl (by decide)) ?_
    refine q31 (g:=42) 6 rfl Y1q (by decide) rfl rfl (fun G=>qh (v:=.int _ _) rfl (lk rfl rfl) rfl rfl rfl) ?_
    refine q2l (g:=42) 7 rfl Y1q (by decide) rfl rfl (fun _=>qyz rfl rfl) ?_
    refine Zb5 ?_
    refine Za9 ?_
    refine q13 (g:=49) rfl (fun hg9=>?_) (fun hg9=>?_)
    ·refine Zg3 ?_
     refine Zg4 ?_
     refine Zg5 ?_
     refine Zg6 ?_
     refine Zg7 ?_
     refine Zg8 ?_
     refine Zg9 ?_
     refine Zga ?_
     refine Zgb ?_
     refine Zgc ?_
     refine Zgd ?_
     refine Zge ?_
     refine Zgf ?_
     refine Zgg ?_
     refine Zgh ?_
     refine Zgi ?_
     refine Zgj ?_
     refine Zgk ?_
     refine Zgl ?_
     refine Zgm ?_
     refine Zgn ?_
     refine Zgo ?_
     refine Zgp ?_
     refine Zgq ?_
     exact Zgr
    ·refine q31 (g:=49) 10 rfl Y1q (by decide) rfl rfl (fun G=>qd rfl (lk rfl rfl) rfl (by decide)) ?_
     refine q31 (g:=49) 11 rfl Y1q (by decide) rfl rfl (fun G=>qh (v:=.int _ _) rfl (lk rfl rfl) rfl rfl rfl) ?_
     refine q31 (g:=49) 12 rfl Y1q (by decide) rfl rfl (fun G=>qd rfl (lk rfl rfl) rfl (by decide)) ?_
     refine q31 (g:=49) 13 rfl Y1q (by decide) rfl rfl (fun G=>q7q (cs:=[_,_,_,_,_,_,_]) rfl (lk rfl rfl) rfl rfl rfl rfl) ?_
     refine q31 (g:=49) 14 rfl Y1q (by decide) rfl rfl (fun G=>qd rfl (lk rfl rfl) rfl (by decide)) ?_
     refine q31 (g:=49) 15 rfl Y1q (by decide) rfl rfl (fun G=>qh (v:=.int _ _) rfl (lk rfl rfl) rfl rfl rfl) ?_
     refine qbg (g:=49) 16 rfl Y1q (by decide) rfl rfl (fun _=>V2.call (qea _ _ _) rfl) ?_
     refine q2l (g:=49) 17 rfl Y1q (by decide) rfl rfl (fun _=>qyz rfl rfl) ?_
     refine aq0 18 rfl Y1q (by decide) (fun _=>q1m (v:=.bool _) rfl rfl) ?_
     refine Zgc ?_
     refine q13 (g:=59) rfl (fun hg19=>?_) (fun hg19=>?_)
     ·refine Zgd ?_
      refine Zge ?_
      refine Zgf ?_
      refine Zgg ?_
      refine Zgh ?_
      refine Zgi ?_
      refine Zgj ?_
      refine Zgk ?_
      refine Zgl ?_
      refine Zgm ?_
      refine Zgn ?_
      refine Zgo ?_
      refine Zgp ?_
      refine Zgq ?_
      exact Zgr
     ·refine q31 (g:=59) 20 rfl Y1q (by decide) rfl rfl (fun G=>qd rfl (lk rfl rfl) rfl (by decide)) ?_
      refine q31 (g:=59) 21 rfl Y1q (by decide) rfl rfl (fun G=>qh (v:=.int _ _) rfl (lk rfl rfl) rfl rfl rfl) ?_
      refine q31 (g:=59) 22 rfl Y1q (by decide) rfl rfl (fun G=>qd rfl (lk rfl rfl) rfl (by decide)) ?_
      refine q31 (g:=59) 23 rfl Y1q (by decide) rfl rfl (fun G=>qh (v:=.int _ _) rfl (lk rfl rfl) rfl rfl rfl) ?_
      refine q2l (g:=59) 24 rfl Y1q (by decide) rfl rfl (fun _=>o_le rfl rfl) ?_
      refine aq0 25 rfl Y1q (by decide) (fun _=>q1m (v:=.bool _) rfl rfl) ?_
      refine Zgj ?_
      refine q13 (g:=66) rfl (fun hg26=>?_) (fun hg26=>?_)
      ·refine Zgk ?_
       refine Zgl ?_
       refine Zgm ?_
       refine Zgn ?_
       refine Zgo ?_
       refine Zgp ?_
       refine Zgq ?_
       exact Zgr
      ·refine q31 (g:=66) 27 rfl Y1q (by decide) rfl rfl (fun G=>qd rfl (lk rfl rfl) rfl (by decide)) ?_
       refine q31 (g:=66) 28 rfl Y1q (by decide) rfl rfl (fun G=>qh (v:=.pl _) rfl (lk rfl rfl) rfl rfl rfl) ?_
       refine q31 (g:=66) 29 rfl Y1q (by decide) rfl rfl (fun G=>qd rfl (lk rfl rfl) rfl (by decide)) ?_
       refine q31 (g:=66) 30 rfl Y1q (by decide) rfl rfl (fun G=>qh (v:=.pl _) rfl (lk rfl rfl) rfl rfl rfl) ?_
       refine qbg (g:=66) 31 rfl Y1q (by decide) rfl rfl (fun _=>V2.call (qdv _ _ _ (by omega) (by omega)) rfl) ?_
       refine q2l (g:=66) 32 rfl Y1q (by decide) rfl rfl (fun _=>qc1 rfl) ?_
       refine aq0 33 rfl Y1q (by decide) (fun _=>q1m (v:=.bool _) rfl rfl) ?_
       exact Zgr
  refine Z1 ?_
  refine qa rfl (fun hc=>?_) (fun hc=>?_)
  ·have hbad:qcz i k=false:=by simpa only [Bool.not_eq_true'] using hc
   refine Z1o ?_
   try dsimp only
   refine Z1 ?_
   rw [show q9l i=false by rw [q9l,q48 hlt hbad,Bool.false_and]]
   exact Zb
  ·have hgood:qcz i k=true:=by simpa only [Bool.not_eq_false'] using hc
   refine Z50 ?_
   refine Z4n ?_
   try dsimp only
   refine Z1 ?_
   refine ⟨k+1,by omega,⟨by omega,fun m hm=>?_⟩,by rw [hstep];exact Y8,Fit.loc hB rfl Y1 (hbel _)⟩
   rcases Nat.lt_or_eq_of_le (Nat.le_of_lt_succ hm) with h | h
   ·exact hno0 m h
   ·subst h;exact hgood
 ·have:k=i.jobs.length:=by simp at hc;omega
  subst this
  refine Z11 ?_
  refine Z4i ?_
  refine Z4k ?_
  refine Z9l ?_
  refine Z3z ?_
  refine Z1 ?_
  rw [List.take_length,show q9l i=decide (qwo i.jobs=i.table.length) by rw [q9l,q4b hno,Bool.true_and];rfl]
  exact Zgs
set_option maxHeartbeats 0 in
theorem qq6 (i:Inst) (H:qf) (hw:IW i):AC Tryz.prog 26 [.agg (q1l i)] H (Ret (.bool (q3c i)) H):=by
 have w1:=hw.graph
 have w2:=hw.jobs
 have w3:=hw.table
 have w4:=hw.health
 have w5:=hw.lease
 refine AC.body (N:=48) [.tmp 2] Tryz.func26 rfl rfl rfl (Nat.le_of_ble_eq_true rfl) fun B hB=>?_
 refine Zfw ?_
 refine Z2x ?_
 refine qq 3 (.bool (q51 i.graph i.health&&q2r i.graph i.lease&&tm i.til&&tm i.now&&q7x i.policy i.depth)) ?_ ?_
 ·refine Z4i ?_
  refine Z4i ?_
  refine Zc0 ?_
  refine Zh ?_
  refine qb rfl rfl (fun hg5=>?_) (fun hg5=>?_)
  ·refine Zcg ?_
   refine Zgt ?_
   refine Z34 ?_
   refine qb rfl rfl (fun hg12=>?_) (fun hg12=>?_)
   ·refine Z32 ?_
    refine Z5j ?_
    refine Z34 ?_
    refine qb rfl rfl (fun hg17=>?_) (fun hg17=>?_)
    ·refine Z32 ?_
     refine Z5j ?_
     refine Z34 ?_
     refine qb rfl rfl (fun hg22=>?_) (fun hg22=>?_)
     ·refine Z55 ?_
      refine Zgu ?_
      refine Zn ?_
      exact Zgv
     ·refine Z56 ?_
      exact Zgw
    ·refine Zcc ?_
     exact Zgw
   ·refine Z37 ?_
    refine Zcc ?_
    exact Zgv
  ·refine Zq ?_
   refine Z37 ?_
   refine Z37 ?_
   refine Zcc ?_
   exact Zgv
 refine Z1 ?_
 refine qq 2 (.bool (q3c i)) ?_ ?_
 ·refine Z3j ?_
  refine qb rfl rfl (fun hg1=>?_) (fun hg1=>?_)
  ·refine Zc7 ?_
   refine q6d rfl rfl (by decide) (V2.call (qej _ _ (by omega)) rfl) ?_
   refine Z34 ?_
   refine qb rfl rfl (fun hg6=>?_) (fun hg6=>?_)
   ·refine Zc7 ?_
    refine Zgx ?_
    refine Z34 ?_
    refine qb rfl rfl (fun hg11=>?_) (fun hg11=>?_)
    ·refine Z5i ?_
     refine q6d rfl rfl (by decide) (V2.call (qwb _ _ Y1y) rfl) ?_
     refine Zn ?_
     exact Zgy
    ·refine Zt ?_
     exact Zgy
   ·refine Z5m ?_
    exact Zgy
  ·refine Z37 ?_
   refine Z5m ?_
   exact Zgy
 exact Z20
theorem qit (w:Inst) (id:Nat) (H:qf) (hw:IW w) (hid:H[id]?=some ⟨0,9,[q1l w]⟩):ACT Tryz.prog KD 203 [.pt id 0 0 0] H (Ret (.pl ((q6q w).map q35)) H):=by
 have hF:=hid
 have w1:=hw.graph
 have w4:=hw.health
 have w5:=hw.lease
 have hbl:=ql2 w.graph w.health 0
 refine ACT.body (N:=20) [.tmp 2] Tryz.func203 rfl rfl rfl (Nat.le_of_ble_eq_true rfl) fun B hB=>?_
 refine Z42 ?_
 refine Z9 ?_
 refine Z9z ?_
 refine Zgz ?_
 refine Zh0 ?_
 refine Zh1 ?_
 refine Zh2 ?_
 refine Zh3 ?_
 refine Zh4 ?_
 refine Zh5 ?_
 refine Zh6 ?_
 refine Zh7 ?_
 refine Zh8 ?_
 refine Zh9 ?_
 refine Zha ?_
 refine Zhb ?_
 refine Zhc ?_
 refine Zhd ?_
 refine q9b 15 rfl Y1q (by decide) (fun _=>V2.call (qi8 _ _ _ (by omega) (by omega)) rfl) ?_
 refine q9b 16 rfl Y1q (by decide) (fun _=>V2.callT (qol w.lease (q2p w.graph w.health 0) (by omega) (by omega) _) rfl rfl) ?_
 refine Zhe ?_
 refine Zhf ?_
 exact Z20
set_option maxHeartbeats 0 in
theorem qx2 (g:List Thing) (p d:Int) (H:qf) (hl:g.length≤1000000):AC Tryz.prog 24 [.pl (g.map qw),.int .i64 p,.int .i64 d] H (Ret (.tup [.agg (q1l (qiv g p d).1),.int .i64 (qiv g p d).2]) H):=by
 refine AC.body (N:=27) [.cell 6 45,.tmp 7] Tryz.func24 rfl rfl rfl (Nat.le_of_ble_eq_true rfl) fun B hB=>?_
 refine Z2 ?_
 refine Zhg ?_
 refine Z4 ?_
 refine Z73 ?_
 refine Z1 ?_
 refine qq 16 (.bool (!q2g g||!q7x p d)) ?_ ?_
 ·refine Z44 ?_
  refine Zhh ?_
  refine Z23 ?_
  refine qb rfl rfl (fun hg3=>?_) (fun hg3=>?_)
  ·refine Z4x ?_
   exact Zhi
  ·refine Z2s ?_
   refine Zgu ?_
   refine Zhj ?_
   exact Zhi
 refine Z1 ?_
 refine qa rfl (fun hc=>?_) (fun hc=>?_)
 ·have hno:qiv g p d=(qye,1):=by rw [qiv,if_pos hc]
  rw [hno]
  refine Z2 ?_
  refine Zhk ?_
  refine Zhm ?_
  exact Zed
 have hyes:qiv g p d=(⟨g,List.replicate g.length 0,q68 g 0,4611686018427387904,[],[],0,p,d⟩,0):=by rw [qiv,if_neg (by simp [hc])]
 have hg:q2g g=true:=by cases h:q2g g<;>simp_all
 rw [hyes]
 refine Z45 ?_
 refine qu (q5t _ _ (by omega)) rfl (by decide) ?_
 refine Z44 ?_
 refine qu (qqr _ _ (by omega)) rfl (by decide) ?_
 refine Z44 ?_
 refine qu (qe3 _ _ _ (by omega)) rfl (by decide) ?_
 refine Z2r ?_
 refine Zhk ?_
 refine Zhm ?_
 refine Zec ?_
 rw [if_pos hg]
 exact Z6p
theorem qjk (g:List Thing) (h:List Int) (H:qf) (hl:g.length≤1000000) (hh:h.length≤1000000):AC Tryz.prog 195 [.pl (g.map qw),.pl (h.map eI)] H (Ret (.pl ((q2p g h 1).map q35)) H):=by
 refine AC.body (N:=8) [.tmp 4] Tryz.func195 rfl rfl rfl (Nat.le_of_ble_eq_true rfl) fun B hB=>?_
 refine Z8y ?_
 refine Zc3 ?_
 refine Z4c ?_
 refine Z9 ?_
 exact Zb
theorem qkr (j:Job) (H:qf) (hw:j.needs.length≤1000000):AC Tryz.prog 193 [.agg (qx j)] H (Ret (.agg (qx j)) H):=by
 refine AC.body (N:=8) [.cell 2 98] Tryz.func193 rfl rfl rfl (Nat.le_of_ble_eq_true rfl) fun B hB=>?_
 refine Z4g ?_
 refine Z5w ?_
 refine qe ?_
 refine Ze7 ?_
 refine Z4j ?_
 refine Z5y ?_
 refine Z2y ?_
 refine Z5z ?_
 refine Z61 ?_
 refine Z3v ?_
 refine Zhn ?_
 refine Z6a ?_
 exact Ze9
theorem quq (l:List Job) (id:Int) (H:qf) (hw:JW l):AC Tryz.prog 168 [.pl (l.map qx),.int .i64 id] H (Ret (.tup [.agg (qx (q49 l id).1),.bool (q49 l id).2]) H):=by
 have hw1:=hw.1
 refine AC.body (N:=26) [.cell 4 98,.tmp 5] Tryz.func168 rfl rfl rfl (Nat.le_of_ble_eq_true rfl) fun B hB=>?_
 refine Z2 ?_
 refine Z5w ?_
 refine Z1n ?_
 refine Z73 ?_
 refine Z45 ?_
 refine Zho ?_
 refine Z3x ?_
 refine qa rfl (fun hc=>?_) (fun hc=>?_)
 ·have hno:q2v l=false:=by simpa only [Bool.not_eq_true'] using hc
  rw [show q49 l id=(job0,false) by rw [q49,hno];rfl]
  refine Z2 ?_
  refine Zhp ?_
  refine Z67 ?_
  refine Z1n ?_
  exact Zed
 have hyes:q2v l=true:=by simpa only [Bool.not_eq_false'] using hc
 have hs:=q3f hyes
 refine Z90 ?_
 refine Zfp ?_
 refine Zef ?_
 refine qa rfl (fun hc=>?_) (fun hc=>?_)
 ·have hno:q2u l id=false:=by simpa only [Bool.not_eq_true'] using hc
  rw [show q49 l id=(job0,false) by rw [q49,hyes,hno];rfl]
  refine Z2 ?_
  refine Zhp ?_
  refine Z67 ?_
  refine Z1n ?_
  exact Zed
 have hhit:q2u l id=true:=by simpa only [Bool.not_eq_false'] using hc
 have hn:q1g l id<l.length:=by simp only [q2u,Bool.and_eq_true,decide_eq_true_eq] at hhit;exact hhit.1
 obtain ⟨x,hx,hxl⟩:=qr hn
 have hr:=qk qx hx
 have hxw:=hw.2 x hxl
 rw [show q49 l id=(x,true) by rw [q49,hyes,hhit,q1z hx];rfl]
 refine Z90 ?_
 refine Z9t ?_
 refine Zhq ?_
 refine Z67 ?_
 refine Z1n ?_
 refine Z7a ?_
 exact Z6p
theorem qn3 (l:List Job) (H:qf) (hw:JW l):AC Tryz.prog 161 [.pl (l.map qx)] H (Ret (.sl (Lid H.length 0) l.length 0 l.length l.length) (H++[⟨l.length,13,l.map qx⟩])):=by
 have hl:=hw.1
 refine AC.body (N:=19) [.tmp 2] Tryz.func161 rfl rfl rfl (Nat.le_of_ble_eq_true rfl) fun B hB=>?_
 refine Zhr ?_
 refine q1s (k:=0) 3 13 rfl (by decide) rfl ?_
 refine Zbf ?_
 refine Zc1 ?_
 refine Z1 ?_
 refine qm (G:=Nat) (fun k=>k≤l.length) (fun k=>[(6,.pl (l.map qx)),(7,.int .i64 (l.length:Int)),(8,.int .i64 (k:Int)),(3,.sl (Lid H.length 0) k 0 k k)]) (fun k=>H++[⟨k,13,(l.take k).map qx⟩]) (fun k=>l.length-k) 0 (Nat.zero_le _) Y8 (Fit.refl _ _) ?_
 intro k hk
 refine Z4r ?_
 refine qa rfl (fun hc=>?_) (fun hc=>?_)
 ·have hlt:k<l.length:=by simpa using hc
  obtain ⟨x,hx,hxl⟩:=qr hlt
  have hr:=qk qx hx
  have hb:=hw.2 x hxl
  refine Zfz ?_
  refine Zbh ?_
  refine Z8o ?_
  refine Z3u ?_
  refine Zhq ?_
  refine Zhs ?_
  refine Zht ?_
  refine Z8s ?_
  refine Zc2 ?_
  refine Z52 ?_
  refine ⟨k+1,by omega,by omega,Y8,Fit.loc hB (by rw [qas qx hx];rfl) Y1 ?_⟩
  intro o ho r hr
  simp only [List.mem_singleton] at ho
  subst ho
  exact q2b _ _ r hr
 ·have:k=l.length:=by simp at hc;omega
  subst this
  rw [List.take_length]
  refine Zhu ?_
  refine Z9 ?_
  exact qbh (G:=[]) hB (q2o rfl .nil) rfl rfl Y1l (by intro o ho r hr;simp only [List.mem_singleton] at ho;subst ho;exact q2b _ _ r hr)
theorem qh8 (l:List Held) (H:qf) (hw:HW l):AC Tryz.prog 171 [.pl (l.map qj)] H (Ret (.sl (Lid H.length 0) l.length 0 l.length l.length) (H++[⟨l.length,4,l.map qj⟩])):=by
 have hl:=hw.1
 refine AC.body (N:=19) [.tmp 2] Tryz.func171 rfl rfl rfl (Nat.le_of_ble_eq_true rfl) fun B hB=>?_
 refine Zhr ?_
 refine q1s (k:=0) 3 4 rfl (by decide) rfl ?_
 refine Zbf ?_
 refine Zc1 ?_
 refine Z1 ?_
 refine qm (G:=Nat) (fun k=>k≤l.length) (fun k=>[(6,.pl (l.map qj)),(7,.int .i64 (l.length:Int)),(8,.int .i64 (k:Int)),(3,.sl (Lid H.length 0) k 0 k k)]) (fun k=>H++[⟨k,4,(l.take k).map qj⟩]) (fun k=>l.length-k) 0 (Nat.zero_le _) Y8 (Fit.refl _ _) ?_
 intro k hk
 refine Z4r ?_
 refine qa rfl (fun hc=>?_) (fun hc=>?_)
 ·have hlt:k<l.length:=by simpa using hc
  obtain ⟨x,hx,hxl⟩:=qr hlt
  have hr:=qk qj hx
  have hb:=hw.2 x hxl
  refine Zhv ?_
  refine Zbh ?_
  refine Z8o ?_
  refine Z3u ?_
  refine Zeg ?_
  refine Zhw ?_
  refine Zht ?_
  refine Z8s ?_
  refine Zc2 ?_
  refine Z52 ?_
  refine ⟨k+1,by omega,by omega,Y8,Fit.loc hB (by rw [qas qj hx];rfl) Y1 ?_⟩
  intro o ho r hr
  simp only [List.mem_singleton] at ho
  subst ho
  exact q1f _ _ r hr
 ·have:k=l.length:=by simp at hc;omega
  subst this
  rw [List.take_length]
  refine Zhu ?_
  refine Z9 ?_
  exact qbh (G:=[]) hB (q2o rfl .nil) rfl rfl Y1l (by intro o ho r hr;simp only [List.mem_singleton] at ho;subst ho;exact q1f _ _ r hr)
set_option maxHeartbeats 0 in
theorem qz8 (l:List Job) (id what now:Int) (H:qf) (hw:JW l):AC Tryz.prog 167 [.pl (l.map qx),.int .i64 id,.int .i64 what,.int .i64 now] H (Ret (.tup [.pl ((q2y l id what now).1.map qx),.int .i64 (q2y l id what now).2]) H):=by
 have hw1:=hw.1
 refine AC.body (N:=46) [.tmp 8,.tmp 9] Tryz.func167 rfl rfl rfl (Nat.le_of_ble_eq_true rfl) fun B hB=>?_
 refine Zhx ?_
 refine Z45 ?_
 refine Zhy ?_
 refine Zbq ?_
 refine Z45 ?_
 refine Zho ?_
 refine Z3x ?_
 refine qa rfl (fun hc=>?_) (fun hc=>?_)
 ·have hno:q2v l=false:=by simpa only [Bool.not_eq_true'] using hc
  rw [show q2y l id what now=(l,1) by rw [q2y,hno];rfl]
  refine Zhz ?_
  try dsimp only
  refine Z1d ?_
  refine Zi0 ?_
  exact Zi1
 have hyes:q2v l=true:=by simpa only [Bool.not_eq_false'] using hc
 have hs:=q3f hyes
 refine Z90 ?_
 refine Zfp ?_
 refine Zef ?_
 refine qa rfl (fun hc=>?_) (fun hc=>?_)
 ·have hno:q2u l id=false:=by simpa only [Bool.not_eq_true'] using hc
  rw [show q2y l id what now=(l,6) by rw [q2y,hyes,hno];rfl]
  refine Zhz ?_
  try dsimp only
  refine Z1d ?_
  refine Zi0 ?_
  exact Zi1
 have hhit:q2u l id=true:=by simpa only [Bool.not_eq_false'] using hc
 have hn:q1g l id<l.length:=by simp only [q2u,Bool.and_eq_true,decide_eq_true_eq] at hhit;exact hhit.1
 obtain ⟨x,hx,hxl⟩:=qr hn
 have hr:=qk qx hx
 have hxw:=hw.2 x hxl
 rw [show q2y l id what now=(l.set (q1g l id) (jdo x what now).1,(jdo x what now).2) by rw [q2y,hyes,hhit,q1z hx];rfl]
 refine Z8p ?_
 refine Zbc ?_
 refine Zi2 ?_
 refine Z2r ?_
 refine ao2 Y1k (V2.call (q134 x what now hxw _) rfl) ?_
 refine Zi5 ?_
 refine Zbg ?_
 refine Z8p ?_
 refine Z3u ?_
 refine Zbc ?_
 refine ao2 Y1w (q2q (sz:=13) rfl rfl rfl rfl (qdw hr) rfl rfl rfl (Nat.le_of_ble_eq_true rfl)) ?_
 refine Zbd ?_
 rw [Nat.zero_add,← List.map_set]
 refine Z8p ?_
 refine Z8r ?_
 refine Z8l ?_
 refine qp (ys:=(l.set (q1g l id) (jdo x what now).1).map qx) 8 rfl rfl rfl rfl Ym (by simp) (q2b 0 _) ?_
 exact Zi1
theorem qfz (l:List Held) (i id g:Nat) (H:qf) (hid:H[id]?=some ⟨g,4,l.map qj⟩) (hi:i<l.length) (hl:l.length≤1000000) :
  AC Tryz.prog 206 [.sl id g 0 l.length l.length,.int .i64 (i:Int),.int .i64 ((i+1:Nat):Int)] H (Ret (.sl id (g+1) 0 (l.length-1) l.length) (H.set id ⟨g+1,4,(l.eraseIdx i).map qj⟩)):=by
 have hF:=hid
 have e1:((l.map qj).drop (i+1)).take (l.length-(i+1))=(l.drop (i+1)).map qj:=by
  rw [List.map_drop,List.take_of_length_le (by simp)]
 have e2:((l.drop (i+1)).map qj).length=l.length-(i+1):=by simp
 have e3:(l.map qj).take i++(l.drop (i+1)).map qj=(l.eraseIdx i).map qj:=by
  rw [List.eraseIdx_eq_take_drop_succ,List.map_append,List.map_take]
 have e4:i+((l.drop (i+1)).map qj).length=l.length-1:=by rw [e2];omega
 refine AC.body (N:=33) [.tmp 6] Tryz.func206 rfl rfl rfl (Nat.le_of_ble_eq_true rfl) fun B hB=>?_
 refine Z43 ?_
 refine Zi6 ?_
 refine Z8n ?_
 refine Zi7 ?_
 refine ao1 (by decide) (qu9 rfl (lkF hF) rfl rfl (.some rfl rfl) rfl rfl (by omega) (by omega) (by omega)) ?_
 refine qe ?_
 refine Z2k ?_
 refine Z16 ?_
 refine qa rfl (fun hc=>?_) (fun hc=>?_)
 ·simp at hc;omega
 ·refine Z8o ?_
  refine Zi7 ?_
  refine Za ?_
  refine q3i mixed (some 6) 999 ?_
  refine Zbw ?_
  refine aqp 2 rfl Y1q (by decide) (fun G=>q59 rfl (lkF hF) rfl rfl .none (.some rfl rfl) (by omega) (by omega)) ?_
  refine aq0 3 rfl Y1q (by decide) (fun _=>qi (v:=.sl _ _ _ _ _) rfl) ?_
  refine Z1j ?_
  refine aqp 5 rfl Y1q (by decide) (fun G=>q59 rfl (lkF hF) rfl rfl (.some rfl rfl) .none (by omega) (by omega)) ?_
  refine aqs 6 rfl Y1q Y1b Y1k (q5f l.length rfl hF rfl rfl (Src.sl (o:=⟨g,4,l.map qj⟩) rfl (lkF hF) rfl (by rw [Nat.zero_add];exact e1) e2) rfl Y1x (by rw [e2];omega) (by rw [e2];omega) (by omega)) ?_
  refine Zi8 ?_
  refine Z7d ?_
  refine Z6k ?_
  simp only [Nat.sub_zero,e4,e3]
  have hF2:(H.set id ⟨g+1,4,(l.eraseIdx i).map qj⟩)[id]?=some ⟨g+1,4,(l.eraseIdx i).map qj⟩:=List.getElem?_set_self (List.getElem?_eq_some_iff.1 hid).1
  refine Zi9 ?_
  refine ao1 (by decide) (qex rfl (lkF hF2) rfl) ?_
  refine Z8 ?_
  refine ao1 (by decide) (q59 (l:=l.length-1) (h:=l.length) rfl (lkF hF2) rfl rfl (.some rfl rfl) (.some rfl (by simp)) (by omega) (by omega)) ?_
  refine ao2 Y1w (qxr rfl hF2 rfl rfl rfl) ?_
  refine Z47 ?_
  rw [show ((l.eraseIdx i).map qj).take (0+(l.length-1))=(l.eraseIdx i).map qj from List.take_of_length_le (by simp [List.length_eraseIdx,hi]),List.set_set]
  refine Zhu ?_
  refine Z9 ?_
  refine q3v hB (q2o rfl .nil) rfl ?_ (by simp) (hB.heap.set _ _ (q1f _ _))
  simp [AV.bel]
  exact (List.getElem?_eq_some_iff.1 hid).1
set_option maxHeartbeats 0 in
theorem qtu (l:List Held) (id:Int) (H:qf) (hw:HW l):AC Tryz.prog 170 [.pl (l.map qj),.int .i64 id] H (Ret (.tup [.pl ((q1o l id).1.map qj),.agg (qj (q1o l id).2.1),.int .i64 (q1o l id).2.2]) H):=by
 have hw1:=hw.1
 refine AC.body (N:=38) [.tmp 4,.cell 5 95,.tmp 6] Tryz.func170 rfl rfl rfl (Nat.le_of_ble_eq_true rfl) fun B hB=>?_
 refine Z42 ?_
 refine Z72 ?_
 refine Z4 ?_
 refine Z73 ?_
 refine Z45 ?_
 refine Zia ?_
 refine Z8s ?_
 refine Zib ?_
 refine Z45 ?_
 refine Zea ?_
 refine Z3x ?_
 refine qa rfl (fun hc=>?_) (fun hc=>?_)
 ·have hno:q2a l=false:=by simpa only [Bool.not_eq_true'] using hc
  rw [show q1o l id=(l,ql6,1) by rw [q1o,hno];rfl]
  refine Z8o ?_
  refine Zeb ?_
  refine Z8r ?_
  refine Zck ?_
  refine Z4 ?_
  refine Zec ?_
  refine Z1d ?_
  refine Zic ?_
  refine q2z ?_
  exact Zid
 have hyes:q2a l=true:=by simpa only [Bool.not_eq_false'] using hc
 have hs:=q8r hyes
 refine Z90 ?_
 refine Zee ?_
 refine Zef ?_
 refine qa rfl (fun hc=>?_) (fun hc=>?_)
 ·have hno:q2w l id=false:=by simpa only [Bool.not_eq_true'] using hc
  rw [show q1o l id=(l,ql6,6) by rw [q1o,hyes,hno];rfl]
  refine Z8o ?_
  refine Zeb ?_
  refine Z8r ?_
  refine Zck ?_
  refine Z4 ?_
  refine Zec ?_
  refine Z1d ?_
  refine Zic ?_
  refine q2z ?_
  exact Zid
 have hhit:q2w l id=true:=by simpa only [Bool.not_eq_false'] using hc
 have hk:q2k l id<l.length:=by simp only [q2w,Bool.and_eq_true,decide_eq_true_eq] at hhit;exact hhit.1
 obtain ⟨x,hx,hxl⟩:=qr hk
 have hr:=qk qj hx
 rw [show q1o l id=(l.eraseIdx (q2k l id),x,0) by rw [q1o,hyes,hhit,qch hx];rfl]
 generalize q2k l id=k at *
 refine Z8p ?_
 refine Zbc ?_
 refine Zi2 ?_
 refine Zg0 ?_
 refine Zbh ?_
 refine Z1 ?_
 refine qdq mixed (some 7) 2 ?_
 refine Zbw ?_
 refine Z8z ?_
 refine aq0 3 rfl Y1q (by decide) (fun _=>q1x (r:=((k+1:Nat):Int)) rfl rfl (by rw [show (k:Int)+1=((k+1:Nat):Int) by omega];exact qc (by omega) (by omega))) ?_
 refine aqr 5 rfl Y1q (by decide) (fun G hG=>q1q rfl (lk rfl hG) rfl rfl rfl) ?_
 refine aqs 4 rfl Y1q Y15 Y1k (V2.callo3 (qfz l k _ _ _ (lk rfl rfl) hk hw1) rfl rfl) ?_
 refine aq0 6 rfl Y1q (by decide) (fun _=>q11 (v:=.sl _ _ _ _ _) rfl) ?_
 refine aqs 7 rfl Y1q Y15 Y1w (q2q (sz:=4) rfl rfl rfl rfl rfl rfl rfl rfl (Nat.le_of_ble_eq_true rfl)) ?_
 refine Z1m ?_
 refine Zie ?_
 refine Zif ?_
 refine Z1d ?_
 refine qp (ys:=(l.eraseIdx k).map qj) 4 rfl rfl rfl rfl (by rw [List.drop_zero,List.take_of_length_le (by simp [List.length_eraseIdx,hk])]) (by simp [List.length_eraseIdx,hk]) (q1f 0 _) ?_
 refine q2z ?_
 exact Zid
theorem q3k {H:qf} {p:Nat} {o:AObj} (h:H[p]?=some o):H.set p o=H:=by
 apply List.ext_getElem?
 intro j
 rw [List.getElem?_set]
 by_cases e:p=j
 ·subst e;rw [if_pos rfl,if_pos (List.getElem?_eq_some_iff.1 h).1,h]
 ·rw [if_neg e]
def qqk (w:Inst) (l:List Job):Inst:=⟨w.graph,w.health,w.lease,w.til,l,w.table,w.now,w.policy,w.depth⟩
def qog (w:Inst) (l:List Held):Inst:=⟨w.graph,w.health,w.lease,w.til,w.jobs,l,w.now,w.policy,w.depth⟩
set_option maxHeartbeats 0 in
theorem q8v (w:Inst) (id what at_:Int) (p:Nat) (H:qf) (hj:JW w.jobs) (hj2:JW (q2y w.jobs id what at_).1) (ht:HW w.table) (hid:H[p]?=some ⟨0,9,[q1l w]⟩):AC Tryz.prog 132 [.pt p 0 0 0,.int .i64 id,.int .i64 what,.int .i64 at_] H (Ret (.int .i64 (wdo w id what at_).2) (H.set p ⟨0,9,[q1l (wdo w id what at_).1]⟩)):=by
 have hF:=hid
 have hbel:∀ w:Inst,∀ r∈(AObj.mk 0 9 [q1l w]).rows,AV.bels H.length r=true:=by
  intro w r hr
  simp only [List.mem_singleton] at hr
  subst hr
  rfl
 refine AC.body (N:=57) [.tmp 8] Tryz.func132 rfl rfl rfl (Nat.le_of_ble_eq_true rfl) fun B hB=>?_
 refine Z5 ?_
 refine Zik ?_
 refine Zim ?_
 refine Z2r ?_
 refine Z8 ?_
 refine ao2 Y1k (V2.call (qz8 w.jobs id what at_ _ hj) rfl) ?_
 refine Zir ?_
 refine Z6k ?_
 generalize hq:q2y w.jobs id what at_=q at hj2 ⊢
 obtain ⟨l,e⟩:=q
 simp only at hj2
 refine Z11 ?_
 refine Z2l ?_
 refine qe ?_
 try dsimp only
 refine Z1 ?_
 refine qa rfl (fun hc=>?_) (fun hc=>?_)
 ·have he:e≠0:=by simpa using hc
  have hw:wdo w id what at_=(w,e):=by rw [wdo,hq,if_pos he]
  rw [hw,q3k hid]
  refine Z1c ?_
  try dsimp only
  exact Z20
 have he:¬ e≠0:=by simpa using hc
 have he0:e=0:=by simpa using he
 refine Zih ?_
 refine Z44 ?_
 refine Zij ?_
 refine Zii ?_
 refine ao2 Y1w (q1b (r':=q1l (qqk w l)) rfl hF rfl rfl rfl rfl rfl (Nat.le_of_ble_eq_true rfl) rfl) ?_
 refine Z61 ?_
 try simp only [List.set_cons_zero]
 have hF2:(H.set p ⟨0,9,[q1l (qqk w l)]⟩)[p]?=some ⟨0,9,[q1l (qqk w l)]⟩:=List.getElem?_set_self (List.getElem?_eq_some_iff.1 hid).1
 have hF:=hF2
 refine Z90 ?_
 refine Zis ?_
 refine Z7h ?_
 refine Zfy ?_
 refine Z1n ?_
 refine Z7i ?_
 refine Z58 ?_
 refine Z6o ?_
 refine Z4m ?_
 refine qa rfl (fun hc=>?_) (fun hc=>?_)
 ·have hw:wdo w id what at_=(qog (qqk w l) (q1o w.table id).1,0):=by rw [wdo,hq];simp only [he0];rw [if_neg (by decide),if_pos hc];rfl
  rw [hw]
  refine Zit ?_
  refine Ziu ?_
  refine Zim ?_
  refine Z8 ?_
  refine ao2 Y1k (V2.call (qtu w.table id _ ht) rfl) ?_
  refine Zio ?_
  refine Z7f ?_
  refine Z14 ?_
  refine Zij ?_
  refine Zii ?_
  refine ao2 Y1w (q1b (r':=q1l (qog (qqk w l) (q1o w.table id).1)) rfl hF rfl rfl rfl rfl rfl (Nat.le_of_ble_eq_true rfl) rfl) ?_
  refine Z61 ?_
  simp only [List.set_cons_zero,List.set_set]
  refine Zz ?_
  exact q3v hB (q2o rfl .nil) rfl rfl (by simp) (hB.heap.set _ _ (hbel _))
 ·have hw:wdo w id what at_=(qqk w l,0):=by rw [wdo,hq];simp only [he0];rw [if_neg (by decide),if_neg (by simp [hc])];rfl
  rw [hw]
  refine Z5 ?_
  try dsimp only
  refine Z1 ?_
  exact q3v hB (q2o rfl .nil) rfl rfl (by simp) (hB.heap.set _ _ (hbel _))
theorem qf3 {α:Type} (p:α→Bool) {l:List α} {k:Nat} {x:α} (hx:l[k]?=some x):(l.take (k+1)).filter p=(l.take k).filter p++if p x then [x] else []:=by
 rw [List.take_add_one,hx,List.filter_append]
 cases h:p x<;>simp [h]
def ovR (l:List Held) (now:Int) (k:Nat):List Held:=(l.take k).filter fun h=>!decide (h.tto≤now)
def ovG (l:List Held) (now:Int) (k:Nat):List Held:=(l.take k).filter fun h=>decide (h.tto≤now)
set_option maxHeartbeats 0 in
theorem qsj (l:List Held) (now:Int) (H:qf) (hw:HW l):AC Tryz.prog 133 [.pl (l.map qj),.int .i64 now] H (Ret (.tup [.pl ((q1r l now).1.map qj),.pl ((q1r l now).2.map qj)]) H):=by
 have hw1:=hw.1
 have hbel:∀ (b:Nat) (r g:List Held),∀ o∈[AObj.mk r.length 4 (r.map qj),AObj.mk g.length 4 (g.map qj)],∀ x∈o.rows,AV.bels b x=true:=by
  intro b r g o ho x hx
  simp only [List.mem_cons,List.not_mem_nil,or_false] at ho
  rcases ho with rfl | rfl<;>exact q1f _ _ x hx
 refine AC.body (N:=37) [.tmp 4,.tmp 5] Tryz.func133 rfl rfl rfl (Nat.le_of_ble_eq_true rfl) fun B hB=>?_
 refine Z42 ?_
 refine Z8i ?_
 refine Z45 ?_
 refine Zea ?_
 refine Z3x ?_
 refine qa rfl (fun hc=>?_) (fun hc=>?_)
 ·have hno:q2a l=false:=by simpa only [Bool.not_eq_true'] using hc
  rw [show q1r l now=(l,[]) by rw [q1r,hno];rfl]
  refine Z45 ?_
  refine Ziv ?_
  refine Z4c ?_
  refine Z41 ?_
  refine Z47 ?_
  refine Z1d ?_
  refine q23 5 rfl ?_
  exact Zi1
 have hyes:q2a l=true:=by simpa only [Bool.not_eq_false'] using hc
 have ho:q1r l now=(ovR l now l.length,ovG l now l.length):=by rw [q1r,hyes,ovR,ovG,List.take_length];rfl
 rw [ho]
 refine Z42 ?_
 refine Z8i ?_
 try dsimp only
 refine Z1d ?_
 refine q1s (k:=0) 6 4 rfl (by decide) rfl ?_
 refine q1s (k:=1) 7 4 rfl (by decide) rfl ?_
 refine Zbe ?_
 refine Ziv ?_
 refine Z4o ?_
 try dsimp only [put,List.nil_append,List.cons_append]
 refine Z1d ?_
 refine qm (G:=Nat) (fun k=>k≤l.length) (fun k=>[(1,.int .i64 now),(6,.sl (Lid H.length 0) (ovR l now k).length 0 (ovR l now k).length (ovR l now k).length),(7,.sl (Lid H.length 1) (ovG l now k).length 0 (ovG l now k).length (ovG l now k).length),(16,.pl (l.map qj)),(17,.int .i64 (l.length:Int)),(18,.int .i64 (k:Int))]) (fun k=>H++[⟨(ovR l now k).length,4,(ovR l now k).map qj⟩,⟨(ovG l now k).length,4,(ovG l now k).map qj⟩]) (fun k=>l.length-k) 0 (Nat.zero_le _) Y8 (Fit.refl _ _) ?_
 intro k hk
 refine Z4r ?_
 refine qa rfl (fun hc=>?_) (fun hc=>?_)
 ·have hlt:k<l.length:=by simp at hc;omega
  obtain ⟨x,hx,hxl⟩:=qr hlt
  have hr:=qk qj hx
  have s1:ovR l now (k+1)=ovR l now k++if (!decide (x.tto≤now)) then [x] else []:=qf3 _ hx
  have s2:ovG l now (k+1)=ovG l now k++if decide (x.tto≤now) then [x] else []:=qf3 _ hx
  have n1:(ovR l now k).length≤k:=Nat.le_trans (List.length_filter_le _ _) Y17
  have n2:(ovG l now k).length≤k:=Nat.le_trans (List.length_filter_le _ _) Y17
  have t1:((ovR l now k).map qj).take (ovR l now k).length=(ovR l now k).map qj:=List.take_of_length_le (by simp)
  have t2:((ovG l now k).map qj).take (ovG l now k).length=(ovG l now k).map qj:=List.take_of_length_le (by simp)
  refine Zhv ?_
  refine Zbh ?_
  refine Z6c ?_
  refine Zg ?_
  refine Z4m ?_
  refine qa rfl (fun hc=>?_) (fun hc=>?_)
  ·rw [hc,Bool.not_true,if_neg (by decide),List.append_nil] at s1
   rw [hc,if_pos rfl] at s2
   refine Zbi ?_
   refine Z3u ?_
   refine Zhw ?_
   refine Z8u ?_
   rw [t2]
   refine Z52 ?_
   refine ⟨k+1,by omega,by omega,by rw [s1,s2,List.length_append];exact Y8,Fit.loc hB (by rw [s1,s2];simp only [List.length_append,List.length_cons,List.length_nil,List.map_append,List.map_cons,List.map_nil];rfl) Y1 (hbel _ _ _)⟩
  ·rw [hc,Bool.not_false,if_pos rfl] at s1
   rw [hc,if_neg (by decide),List.append_nil] at s2
   refine Zbi ?_
   refine Z3u ?_
   refine Zhw ?_
   refine Z8t ?_
   refine Zc2 ?_
   rw [t1]
   refine Z52 ?_
   refine ⟨k+1,by omega,by omega,by rw [s1,s2,List.length_append];exact Y8,Fit.loc hB (by rw [s1,s2];simp only [List.length_append,List.length_cons,List.length_nil,List.map_append,List.map_cons,List.map_nil];rfl) Y1 (hbel _ _ _)⟩
 ·have:k=l.length:=by simp at hc;omega
  subst this
  refine Zi9 ?_
  refine Z8r ?_
  refine Z8v ?_
  refine qp (ys:=(ovR l now l.length).map qj) 4 rfl rfl rfl rfl Ym (by simp) (q1f 0 _) ?_
  refine qp (ys:=(ovG l now l.length).map qj) 5 rfl rfl rfl rfl Ym (by simp) (q1f 0 _) ?_
  exact Zi1
theorem qhg (l:List Held) (H:qf) (hn:l.length≤1000000):AC Tryz.prog 196 [.pl (l.map qj)] H (Ret (.pl (l.map qj)) H):=by
 refine AC.body (N:=8) [.tmp 2] Tryz.func196 rfl rfl rfl (Nat.le_of_ble_eq_true rfl) fun B hB=>?_
 refine Z46 ?_
 refine q69 rfl Y1k (qa6 rfl rfl _ _ _ _) ?_ (fun _ _ h=>h.elim)
 rintro _ _ ⟨nb,rfl,hnb,rfl⟩
 refine Z48 ?_
 refine qa rfl (fun hc=>?_) (fun hc=>?_)
 ·subst hc
  have hb:l=[]:=by
   cases l with
   | nil=>rfl
   | cons x b=>simp at hnb
  subst hb
  refine Z4a ?_
  exact q2z (q4r hB (q2o rfl .nil) rfl rfl)
 ·refine Z2 ?_
  refine Z4b ?_
  refine Z44 ?_
  refine ao2 Y1k (q5i (sz:=4) (bytes:=48) rfl (Src.pl rfl (qk0 l)) rfl (by decide) Y1x Y1x (q1f 0 l)) ?_
  exact Z4e
theorem qib (l:List Job) (H:qf) (hn:l.length≤1000000):AC Tryz.prog 199 [.pl (l.map qx)] H (Ret (.pl (l.map qx)) H):=by
 refine AC.body (N:=8) [.tmp 2] Tryz.func199 rfl rfl rfl (Nat.le_of_ble_eq_true rfl) fun B hB=>?_
 refine Z46 ?_
 refine q69 rfl Y1k (qa6 rfl rfl _ _ _ _) ?_ (fun _ _ h=>h.elim)
 rintro _ _ ⟨nb,rfl,hnb,rfl⟩
 refine Z48 ?_
 refine qa rfl (fun hc=>?_) (fun hc=>?_)
 ·subst hc
  have hb:l=[]:=by
   cases l with
   | nil=>rfl
   | cons x b=>simp at hnb
  subst hb
  refine Z4a ?_
  exact q2z (q4r hB (q2o rfl .nil) rfl rfl)
 ·refine Z2 ?_
  refine Z4b ?_
  refine Z44 ?_
  refine ao2 Y1k (q5i (sz:=13) (bytes:=128) rfl (Src.pl rfl (qdj l)) rfl (by decide) Y1x Y1x (q2b 0 l)) ?_
  exact Z4e
end Go.Av
namespace Go.Av
section
variable {P : Program} {N : Nat} {B : Base} {ops : Array Oper} {a : Option Nat} {F : Env → qf → Prop}
variable {fuel : Nat} {listed : Array Bool} {env : Env} {H H0 : qf} {op : Op} {ty : TypeId} {pos : String} {after : Array Edge} {v : AV}
theorem aqst {L0:qf} (i:Nat) (hi:ops[i]?=some ⟨none,op,ty,pos,after,none⟩) (hB:q6m ops listed a i=true) (h1:∀ G,V2 P N op ty (renv ⟨none,op,ty,pos,after,none⟩ env) (H0++(L0++G)) v (H0++(L0++G)))
  (h:AAny P N B ops a (Pre H0 L0) F fuel (listed.setIfInBounds i true) env H):AAny P N B ops a (Pre H0 L0) F (fuel+1) listed env H :=
 qbe i hi hB Y1w (.inl ⟨rfl,by rintro _ ⟨G,rfl⟩;exact h1 G _ _ _ _⟩) h
end
end Go.Av
namespace Go.Av
open Go.Proofs
theorem qis {P:Program} {N:Nat} {env:Env} {ty:TypeId} {H0 L:qf} {t:TypeId} {x y:Operand} {n k g i j sz:Nat} {agg:Bool} {o:AObj} {r:List AV} {v:AV} [TyI P t agg sz] (hx:aev env x = .pt (Lid n k) g i j) (hn:H0.length=n) (hk:L[k]?=some o) (hg:o.gen=g) (hr:o.rows[i]?=some r)
  (hy:aev env y=v) (hc:v.cellish=true) (hl:v.cells.length=sz) (hj:j+sz≤o.sz) (hr':r.take j++v.cells++r.drop (j+sz)=r) (hs:(L.set k ⟨o.gen,o.sz,o.rows.set i r⟩)=L):V2 P N (.store t x y) ty env (H0++L) .junk (H0++L):=by
 have h:=q1k (P:=P) (N:=N) (env:=env) (ty:=ty) (t:=t) (agg:=agg) (r':=r) hx hn hk hg hr hy hc hl hj hr'
 rw [show ({ o with rows:=o.rows.set i r }:AObj)=⟨o.gen,o.sz,o.rows.set i r⟩ from rfl,hs] at h
 exact h
abbrev z9:List AV:=[.nsl,.nsl,.nsl,.int .i64 0,.nsl,.nsl,.int .i64 0,.int .i64 0,.int .i64 0]
set_option maxHeartbeats 0 in
theorem qkj (i:Inst) (H:qf) (hw:IW i) (hj:JW i.jobs):AC Tryz.prog 89 [.agg (q1l i)] H (Ret (.agg (q1l i)) H):=by
 have w1:=hw.graph
 have w2:=hw.health
 have w3:=hw.lease
 have w4:=hw.jobs
 have w5:=hw.table
 refine AC.body (N:=58) [.cell 2 45] Tryz.func89 rfl rfl rfl (Nat.le_of_ble_eq_true rfl) fun B hB=>?_
 refine Zfw ?_
 refine Zhg ?_
 refine qe ?_
 refine Ze7 ?_
 refine Z1 ?_
 refine Z7w ?_
 refine Z7x ?_
 refine Za1 ?_
 refine Ziw ?_
 refine q9b 2 rfl Y1q (by decide) (fun _=>V2.call (q5t i.graph _ (by omega)) rfl) ?_
 refine Zix ?_
 refine Ziy ?_
 refine q9b 5 rfl Y1q (by decide) (fun _=>V2.call (q3m i.health _ (by omega)) rfl) ?_
 refine Ziz ?_
 refine aqp 7 rfl Y1q (by decide) (fun G=>qh (v:=.pl _) rfl (lk rfl rfl) rfl rfl rfl) ?_
 refine q9b 8 rfl Y1q (by decide) (fun _=>V2.call (q3m i.lease _ (by omega)) rfl) ?_
 refine Zj0 ?_
 refine Zj1 ?_
 refine Zj2 ?_
 refine Zj3 ?_
 refine Zj4 ?_
 refine Zj5 ?_
 refine Zhf ?_
 have hbel:∀ (b:Nat) (j:List Job) (t:List Held),∀ o∈[AObj.mk 0 9 [q1l i],AObj.mk 0 9 [z9],AObj.mk j.length 13 (j.map qx),AObj.mk t.length 4 (t.map qj)],∀ x∈o.rows,AV.bels b x=true:=by
  intro b j t o ho x hx
  simp only [List.mem_cons,List.not_mem_nil,or_false] at ho
  rcases ho with rfl | rfl | rfl | rfl
  ·simp only [List.mem_singleton] at hx;subst hx;rfl
  ·simp only [List.mem_singleton] at hx;subst hx;rfl
  ·exact q2b _ _ x hx
  ·exact q1f _ _ x hx
 have hb3:∀ (b:Nat) (j:List Job),∀ o∈[AObj.mk 0 9 [q1l i],AObj.mk 0 9 [z9],AObj.mk j.length 13 (j.map qx)],∀ x∈o.rows,AV.bels b x=true:=by
  intro b j o ho
  refine hbel b j [] o ?_
  simp only [List.mem_cons,List.not_mem_nil,or_false] at ho ⊢
  rcases ho with h | h | h
  ·exact .inl h
  ·exact .inr (.inl h)
  ·exact .inr (.inr (.inl h))
 refine Z49 ?_
 refine q1s (k:=2) 3 13 rfl (by decide) rfl ?_
 refine q18 ?_
 refine Z4i ?_
 refine Z4o ?_
 refine Zj6 ?_
 refine Z1d ?_
 refine qm (G:=Nat) (fun k=>k≤i.jobs.length) (fun k=>[(1,.pt (Lid H.length 0) 0 0 0),(2,.pt (Lid H.length 1) 0 0 0),(3,.sl (Lid H.length 2) (i.jobs.take k).length 0 (i.jobs.take k).length (i.jobs.take k).length),(22,.pl (i.jobs.map qx)),(23,.int .i64 (i.jobs.length:Int)),(24,.int .i64 (k:Int))]) (fun k=>H++[⟨0,9,[q1l i]⟩,⟨0,9,[z9]⟩,⟨(i.jobs.take k).length,13,(i.jobs.take k).map qx⟩]) (fun k=>i.jobs.length-k) 0 (Nat.zero_le _) Y8 (.inl rfl) ?_
 intro k hk
 refine Z4r ?_
 refine qa rfl (fun hc=>?_) (fun hc=>?_)
 ·have hlt:k<i.jobs.length:=by simpa using hc
  obtain ⟨x,hx,hxl⟩:=qr hlt
  have hr:=qk qx hx
  have hxw:=hj.2 x hxl
  have s1:i.jobs.take (k+1)=i.jobs.take k++[x]:=ql hx
  have n1:(i.jobs.take k).length≤1000000:=by rw [List.length_take];omega
  have t1:((i.jobs.take k).map qx).take (i.jobs.take k).length=(i.jobs.take k).map qx:=List.take_of_length_le (by simp)
  refine Zfz ?_
  refine Zbh ?_
  refine Z4j ?_
  refine ao2 Y1k (V2.call (q3m x.needs _ hxw) rfl) ?_
  refine Z2y ?_
  refine Z5z ?_
  refine Zj7 ?_
  refine Z8o ?_
  refine Z3u ?_
  refine Zhs ?_
  refine Z8u ?_
  rw [t1]
  refine Z52 ?_
  refine ⟨k+1,by omega,by omega,by rw [s1,List.length_append];exact Y8,Fit.loc hB (by rw [s1];simp only [List.length_append,List.length_cons,List.length_nil,List.map_append,List.map_cons,List.map_nil];rfl) Y1 (hb3 _ _)⟩
 have:k=i.jobs.length:=by simp at hc;omega
 subst this
 rw [List.take_length]
 refine Z49 ?_
 refine q1s (k:=3) 6 4 rfl (by decide) rfl ?_
 refine q18 ?_
 refine Z4i ?_
 refine Z4o ?_
 refine Zj6 ?_
 refine Z1d ?_
 refine qm (G:=Nat) (fun k=>k≤i.table.length) (fun k=>[(1,.pt (Lid H.length 0) 0 0 0),(2,.pt (Lid H.length 1) 0 0 0),(3,.sl (Lid H.length 2) i.jobs.length 0 i.jobs.length i.jobs.length),(6,.sl (Lid H.length 3) (i.table.take k).length 0 (i.table.take k).length (i.table.take k).length),(38,.pl (i.table.map qj)),(39,.int .i64 (i.table.length:Int)),(40,.int .i64 (k:Int))]) (fun k=>H++[⟨0,9,[q1l i]⟩,⟨0,9,[z9]⟩,⟨i.jobs.length,13,i.jobs.map qx⟩,⟨(i.table.take k).length,4,(i.table.take k).map qj⟩]) (fun k=>i.table.length-k) 0 (Nat.zero_le _) Y8 (.inl rfl) ?_
 intro k hk
 refine Z4r ?_
 refine qa rfl (fun hc=>?_) (fun hc=>?_)
 ·have hlt:k<i.table.length:=by simpa using hc
  obtain ⟨x,hx,hxl⟩:=qr hlt
  have hr:=qk qj hx
  have hxw:=w5.2 x hxl
  have w6:=w5.1
  have s1:i.table.take (k+1)=i.table.take k++[x]:=ql hx
  have n1:(i.table.take k).length≤1000000:=by rw [List.length_take];omega
  have t1:((i.table.take k).map qj).take (i.table.take k).length=(i.table.take k).map qj:=List.take_of_length_le (by simp)
  refine Zhv ?_
  refine Zbh ?_
  refine Z4j ?_
  refine ao2 Y1k (V2.call (q3m x.things _ hxw) rfl) ?_
  refine Z2y ?_
  refine Ze8 ?_
  refine Zj7 ?_
  refine Z8o ?_
  refine Z3u ?_
  refine Zhw ?_
  refine Z8u ?_
  rw [t1]
  refine Z52 ?_
  refine ⟨k+1,by omega,by omega,by rw [s1,List.length_append];exact Y8,Fit.loc hB (by rw [s1];simp only [List.length_append,List.length_cons,List.length_nil,List.map_append,List.map_cons,List.map_nil];rfl) Y1 (hbel _ i.jobs _)⟩
 have:k=i.table.length:=by simp at hc;omega
 subst this
 rw [List.take_length]
 refine Z1d ?_
 refine qp (ys:=i.jobs.map qx) 3 rfl rfl rfl rfl Ym (by simp) (q2b 0 _) ?_
 refine qp (ys:=i.table.map qj) 6 rfl rfl rfl rfl Ym (by simp) (q1f 0 _) ?_
 refine Zbe ?_
 refine Z44 ?_
 refine Z2y ?_
 refine Zj8 ?_
 refine Z2y ?_
 refine Zj8 ?_
 refine qe ?_
 refine Zj9 ?_
 refine Z3v ?_
 refine Zhl ?_
 refine qe ?_
 refine Z6a ?_
 exact Ze9
def qtc (l:List Int) (k:Nat):Int:=if k=0 then 0 else l.getD (k-1) 0
def rB (l:List Int) (k:Nat):Bool:=decide (qtc l k<l.getD k 0)
theorem qtz (l:List Int):qai l=(qmm (rB l) l.length&&decide (l.length≤16)):=rfl
theorem qkn (l:List Int) (H:qf) (hl:l.length≤1000000):AC Tryz.prog 162 [.pl (l.map eI)] H (Ret (.bool (qai l)) H):=by
 rw [qtz]
 refine AC.body (N:=20) [.tmp 2] Tryz.func162 rfl rfl rfl (Nat.le_of_ble_eq_true rfl) fun B hB=>?_
 refine Z1o ?_
 refine Z77 ?_
 refine qm (G:=Nat) (fun k=>k≤l.length∧∀ m,m<k→rB l m=true) (fun k=>[(0,.pl (l.map eI)),(3,.int .i64 (qtc l k)),(6,.pl (l.map eI)),(7,.int .i64 (l.length:Int)),(8,.int .i64 (k:Int))]) (fun _=>H++[]) (fun k=>l.length-k) 0 ⟨Nat.zero_le _,fun m hm=>by omega⟩ Y8 (Fit.refl _ _) ?_
 rintro k ⟨hk,hno⟩
 refine Z4r ?_
 refine qa rfl (fun hc=>?_) (fun hc=>?_)
 ·have hlt:k<l.length:=by simpa using hc
  obtain ⟨x,hx,hxl⟩:=qr hlt
  have hr:=qk eI hx
  have hd:l.getD k 0=x:=by rw [List.getD_eq_getElem?_getD,hx];rfl
  have hat:rB l k=decide (qtc l k<x):=by rw [rB,hd]
  have hlast:qtc l (k+1)=x:=by rw [qtc,if_neg (by omega),Nat.add_sub_cancel,hd]
  refine Zfo ?_
  refine Z2k ?_
  refine Zg ?_
  refine Z9 ?_
  refine qa rfl (fun hc=>?_) (fun hc=>?_)
  ·have hbad:rB l k=false:=by rw [hat];simp at hc;exact decide_eq_false (by omega)
   refine Zf ?_
   rw [q48 hlt hbad,Bool.false_and]
   exact Zb
  ·have hgood:rB l k=true:=by rw [hat];simp at hc;exact decide_eq_true (by omega)
   refine Z1c ?_
   refine Z52 ?_
   refine ⟨k+1,by omega,⟨by omega,fun m hm=>?_⟩,by rw [hlast];exact Y8,.refl _ _⟩
   rcases Nat.lt_or_eq_of_le (Nat.le_of_lt_succ hm) with h | h
   ·exact hno m h
   ·subst h;exact hgood
 ·have:k=l.length:=by simp at hc;omega
  subst this
  refine Z6r ?_
  refine Zg ?_
  refine Ze ?_
  rw [q4b hno,Bool.true_and]
  exact Zgs
set_option maxHeartbeats 0 in
theorem qug (l:List Job) (s:Spec) (needs:List Int) (now:Int) (H:qf) (hw:JW l) (hn:needs.length≤1000000):AC Tryz.prog 129 [.pl (l.map qx),.agg (q1i s),.pl (needs.map eI),.int .i64 now] H (Ret (.tup [.pl ((q19 l s needs now).1.map qx),.int .i64 (q19 l s needs now).2.1,.int .i64 (q19 l s needs now).2.2]) H):=by
 have hw1:=hw.1
 refine AC.body (N:=94) [.tmp 8,.tmp 9,.tmp 10] Tryz.func129 rfl rfl rfl (Nat.le_of_ble_eq_true rfl) fun B hB=>?_
 refine Z2u ?_
 refine Z41 ?_
 refine Z15 ?_
 refine Z2v ?_
 refine Z45 ?_
 refine Zhy ?_
 refine Z8s ?_
 refine Zib ?_
 refine Z2 ?_
 refine Zhp ?_
 refine Zfy ?_
 refine qe ?_
 refine Zja ?_
 refine Z6r ?_
 refine Z2q ?_
 refine q2x ([(0,.pl (l.map qx)),(2,.pl (needs.map eI)),(3,.int .i64 now),(5,.pt (Lid H.length 0) 0 0 0),(11,.sl (Lid H.length 1) l.length 0 l.length l.length),(12,.pt (Lid H.length 2) 0 0 0)]) (H++[⟨0,7,[q1i s]⟩,⟨l.length,13,l.map qx⟩,⟨0,13,[qx (q1t l)]⟩]) ?_ ?_
 ·refine Z1 ?_
  refine qa rfl (fun hc=>?_) (fun hc=>?_)
  ·have h0:0<l.length:=by simpa using hc
   obtain ⟨x,hx,hxl⟩:=qr (l:=l) (k:=l.length-1) (by omega)
   have hr:=qk qx hx
   have hjl:q1t l=x:=by rw [q1t,if_neg (by omega),q1z hx]
   refine Zbe ?_
   refine Z6t ?_
   refine ao1 (by decide) (q30 (r:=((l.length-1:Nat):Int)) rfl rfl (by rw [List.length_map,show (l.length:Int)-1=((l.length-1:Nat):Int) by omega];exact qc (by omega) (by omega))) ?_
   refine Z9t ?_
   refine Zhn ?_
   refine Z69 ?_
   exact q1u Y8 (.inl (by rw [hjl]))
  ·have h0:l.length=0:=by simp at hc;simp [hc]
   have hjl:q1t l=job0:=by rw [q1t,if_pos h0]
   refine Z1 ?_
   exact q1u Y8 (.inl (by rw [hjl];rfl))
 generalize hlast:q1t l=last
 refine Z1 ?_
 refine qq 53 (.bool (!(q2v l&&q1c s&&qai needs&&tm now)||decide (now<last.came))) ?_ ?_
 ·refine Z44 ?_
  refine Zho ?_
  refine Z23 ?_
  refine qb rfl rfl (fun hg3=>?_) (fun hg3=>?_)
  ·refine Z3m ?_
   refine Z3d ?_
   refine Z4x ?_
   exact Zjb
  ·refine Z5i ?_
   refine Z5h ?_
   refine Z66 ?_
   refine qb rfl rfl (fun hg8=>?_) (fun hg8=>?_)
   ·refine Z3m ?_
    refine Z4x ?_
    exact Zjb
   ·refine Z9p ?_
    refine q6d rfl rfl (by decide) (V2.call (qkn _ _ (by omega)) rfl) ?_
    refine Z66 ?_
    refine qb rfl rfl (fun hg13=>?_) (fun hg13=>?_)
    ·refine Z3d ?_
     refine Z4x ?_
     exact Zjb
    ·refine Zj ?_
     refine Z5j ?_
     refine Z66 ?_
     refine qb rfl rfl (fun hg18=>?_) (fun hg18=>?_)
     ·refine Z4x ?_
      exact Zjb
     ·refine Zj ?_
      refine Z32 ?_
      refine Zk ?_
      refine Zr ?_
      exact Zjb
 refine Z1 ?_
 refine qa rfl (fun hc=>?_) (fun hc=>?_)
 ·have he:q19 l s needs now=(l,0,1):=by rw [q19,hlast,if_pos hc]
  rw [he]
  refine Zhu ?_
  refine Z15 ?_
  try dsimp only
  refine Z1d ?_
  refine Zjc ?_
  exact Zje
 have hc1:=hc
 have hyes:q2v l=true:=by
  cases h:q2v l with
  | true=>rfl
  | false=>rw [h] at hc;simp at hc
 have hs:=q3f hyes
 have hnn:needs.length≤16:=by
  cases h:qai needs with
  | true=>simp only [qai,Bool.and_eq_true,decide_eq_true_eq] at h;exact h.2
  | false=>rw [h] at hc;simp at hc
 clear hc
 refine Z76 ?_
 refine qm (G:=Nat) (fun k=>k≤needs.length∧∀ n∈needs.take k,q2u l n=true) (fun k=>[(0,.pl (l.map qx)),(2,.pl (needs.map eI)),(3,.int .i64 now),(5,.pt (Lid H.length 0) 0 0 0),(11,.sl (Lid H.length 1) l.length 0 l.length l.length),(12,.pt (Lid H.length 2) 0 0 0),(55,.pl (needs.map eI)),(56,.int .i64 (needs.length:Int)),(57,.int .i64 (k:Int))]) (fun _=>H++[⟨0,7,[q1i s]⟩,⟨l.length,13,l.map qx⟩,⟨0,13,[qx last]⟩]) (fun k=>needs.length-k) 0 ⟨Nat.zero_le _,by simp⟩ Y8 (.inl rfl) ?_
 rintro k ⟨hk,hno⟩
 refine Z4r ?_
 refine qa rfl (fun hc=>?_) (fun hc=>?_)
 ·have hlt:k<needs.length:=by simpa using hc
  obtain ⟨n,hn',hnl⟩:=qr hlt
  have hr:=qk eI hn'
  clear hc
  refine Zfo ?_
  refine Z90 ?_
  refine Zfp ?_
  refine Zef ?_
  refine qa rfl (fun hc=>?_) (fun hc=>?_)
  ·have hbad:q2u l n=false:=by simpa only [Bool.not_eq_true'] using hc
   have hall:(needs.all fun n=>q2u l n)=false:=by rw [List.all_eq_false];exact ⟨n,hnl,by rw [hbad];decide⟩
   have he:q19 l s needs now=(l,0,6):=by rw [q19,hlast,if_neg Y1o,hall];rfl
   rw [he]
   refine Zhu ?_
   refine Z15 ?_
   try dsimp only
   refine Z1d ?_
   refine Zjc ?_
   exact Zje
  ·have hgood:q2u l n=true:=by simpa only [Bool.not_eq_false'] using hc
   refine Z52 ?_
   refine ⟨k+1,by omega,⟨by omega,?_⟩,Y8,.inl rfl⟩
   rw [ql hn']
   intro y hy
   rcases List.mem_append.1 hy with h | h
   ·exact hno y h
   ·simp only [List.mem_singleton] at h
    subst h
    exact hgood
 ·have:k=needs.length:=by simp at hc;omega
  subst this
  rw [List.take_length] at hno
  have hall:(needs.all fun n=>q2u l n)=true:=List.all_eq_true.2 hno
  clear hc
  refine Z6r ?_
  refine Z13 ?_
  refine qa rfl (fun hc=>?_) (fun hc=>?_)
  ·have h64:l.length=64:=by simp at hc;omega
   have he:q19 l s needs now=(l,0,5):=by rw [q19,hlast,if_neg Y1o,hall,if_pos h64];rfl
   rw [he]
   refine Zhu ?_
   refine Z15 ?_
   try dsimp only
   refine Z1d ?_
   refine Zjc ?_
   exact Zje
  have h64:l.length≠64:=by simp at hc;omega
  clear hc
  refine Z58 ?_
  refine Z9l ?_
  refine Z3z ?_
  refine Z1 ?_
  refine qa rfl (fun hc=>?_) (fun hc=>?_)
  ·have hid:last.id=1073741824:=by simpa using hc
   have he:q19 l s needs now=(l,0,9):=by rw [q19,hlast,if_neg Y1o,hall,if_neg h64,if_pos hid];rfl
   rw [he]
   refine Zhu ?_
   refine Z15 ?_
   try dsimp only
   refine Z1d ?_
   refine Zjc ?_
   exact Zje
  have hid:last.id≠1073741824:=by simpa using hc
  have hle:0≤last.id∧last.id≤1073741824:=by
   rw [← hlast,q1t]
   split
   ·exact ⟨by decide,by decide⟩
   ·rename_i h
    have hm:=(jobs_iff.1 hyes).2.1 (q37 l (l.length-1)) (by rw [q1z (List.getElem?_eq_getElem (show l.length-1<l.length by omega))];exact List.getElem_mem _)
    simp only [q28,Bool.and_eq_true,decide_eq_true_eq] at hm
    omega
  have he:q19 l s needs now=(l++[⟨last.id+1,s,needs,0,now,0,0⟩],last.id+1,0):=by rw [q19,hlast,if_neg Y1o,hall,if_neg h64,if_neg hid];rfl
  rw [he]
  clear hc he hall hno
  refine Z58 ?_
  refine ao1 (by decide) (q1x (r:=last.id+1) rfl rfl (qc (by omega) (by omega))) ?_
  refine Z40 ?_
  refine Z1 ?_
  refine q3i mixed (some 8) 3 ?_
  refine Z7x ?_
  refine Zbw ?_
  refine qss [7,6,2] 2 rfl Y1q (by decide) (fun G=>q1q rfl (lk rfl rfl) rfl rfl rfl) ?_
  refine aq0 3 rfl Y1q (by decide) (fun _=>qi (v:=.pl _) rfl) ?_
  refine q9b 4 rfl Y1q (by decide) (fun _=>V2.call (q3m needs _ hn) rfl) ?_
  refine Z1l ?_
  refine aq0 6 rfl Y1q (by decide) (fun _=>V1.up (q3w (cs:=[.int _ _,.int _ _,.int _ _,.int _ _,.str _,.bool _,.int _ _,.int _ _,_,.int _ _,.int _ _,.int _ _,.int _ _]) rfl)) ?_
  refine q9b 7 rfl Y1q (by decide) (fun _=>q5e (sz:=13) (v:=.agg (qx ⟨last.id+1,s,needs,0,now,0,0⟩)) (cs:=qx ⟨last.id+1,s,needs,0,now,0,0⟩) rfl (by decide) (by decide) rfl rfl rfl rfl rfl) ?_
  refine Zjf ?_
  refine aqs 8 rfl Y1q Y1b Y1k (q47 rfl rfl rfl rfl rfl (Src.pl (ys:=[qx ⟨last.id+1,s,needs,0,now,0,0⟩]) rfl (qdj [⟨last.id+1,s,needs,0,now,0,0⟩])) rfl (by simp) (by simp) Y1x Y1x) ?_
  refine aq0 10 rfl Y1q (by decide) (fun _=>q11 (v:=.sl _ _ _ _ _) rfl) ?_
  refine aq0 11 rfl Y1q (by decide) (fun _=>q11 (v:=.int _ _) rfl) ?_
  refine aq0 12 rfl Y1q (by decide) (fun _=>q11 (v:=.int _ _) rfl) ?_
  refine Z7d ?_
  try dsimp only [List.length_cons,List.length_nil,Nat.reduceAdd,AV.up,put,List.set_cons_succ,List.set_cons_zero]
  refine Z1d ?_
  refine qp (ys:=(l++[(⟨last.id+1,s,needs,0,now,0,0⟩:Job)]).map qx) 8 rfl rfl rfl rfl (by rw [List.drop_zero,List.take_of_length_le (by simp),List.take_of_length_le (by simp),List.map_append];rfl) (by simp) (q2b 0 _) ?_
  exact Zje
theorem qjg (l:List Int) (v:Int) (H:qf) (hl:l.length≤1000000):AC Tryz.prog 166 [.pl (l.map eI),.int .i64 v] H (Ret (.int .i64 (ixf (fun x=>decide (v=x)) l)) H):=by
 refine AC.body (N:=19) [.tmp 4] Tryz.func166 rfl rfl rfl (Nat.le_of_ble_eq_true rfl) fun B hB=>?_
 refine Z77 ?_
 refine qm (G:=Nat) (fun k=>k≤l.length∧∀ y∈l.take k,decide (v=y)=false) (fun k=>[(0,.pl (l.map eI)),(1,.int .i64 v),(7,.int .i64 (l.length:Int)),(8,.int .i64 (k:Int))]) (fun _=>H++[]) (fun k=>l.length-k) 0 ⟨Nat.zero_le _,by simp⟩ Y8 (Fit.refl _ _) ?_
 rintro k ⟨hk,hno⟩
 refine Z4r ?_
 refine qa rfl (fun hc=>?_) (fun hc=>?_)
 ·have hlt:k<l.length:=by simp at hc;omega
  obtain ⟨x,hx,hxl⟩:=qr hlt
  have hr:=qk eI hx
  refine Z1c ?_
  refine Z11 ?_
  refine Zbr ?_
  refine Z4u ?_
  refine Z16 ?_
  refine qa rfl (fun hc=>?_) (fun hc=>?_)
  ·have he:v=x:=by simpa using hc
   refine Z1t ?_
   rw [qbi (p:=fun x=>decide (v=x)) hx (decide_eq_true he) hno]
   exact Zb
  ·have he:¬ v=x:=by simpa using hc
   refine Z52 ?_
   refine ⟨k+1,by omega,⟨by omega,?_⟩,Y8,.refl _ _⟩
   rw [ql hx]
   intro y hy
   rcases List.mem_append.1 hy with h | h
   ·exact hno y h
   ·simp only [List.mem_singleton] at h
    subst h
    exact decide_eq_false he
 ·have:k=l.length:=by simp at hc;omega
  subst this
  rw [List.take_length] at hno
  rw [qba hno]
  exact Z18
theorem qju (l:List Int) (v:Int):decide (ixf (fun x=>decide (v=x)) l≥0)=l.contains v:=by
 rw [q73,Bool.eq_iff_iff,List.any_eq_true,List.contains_iff_mem]
 constructor
 ·rintro ⟨x,hx,e⟩
  rw [decide_eq_true_eq] at e
  subst e
  exact hx
 ·intro h
  exact ⟨v,h,by simp⟩
theorem q8e (l:List Int) (v:Int) (H:qf) (hl:l.length≤1000000):AC Tryz.prog 131 [.pl (l.map eI),.int .i64 v] H (Ret (.bool (l.contains v)) H):=by
 rw [← qju]
 refine AC.body (N:=9) [.tmp 4] Tryz.func131 rfl rfl rfl (Nat.le_of_ble_eq_true rfl) fun B hB=>?_
 refine Z1o ?_
 refine Z90 ?_
 refine qu (qjg _ _ _ (by omega)) rfl (by decide) ?_
 refine Z1p ?_
 exact Z1q
set_option maxHeartbeats 0 in
theorem qps (g:List Thing) (h:List Int) (n how:Int) (H:qf) (hl:g.length≤1000000) (hh:h.length≤1000000):AC Tryz.prog 134 [.pl (g.map qw),.pl (h.map eI),.int .i64 n,.int .i64 how] H (Ret (.tup [.pl ((q57 g h n how).1.map eI),.int .i64 (q57 g h n how).2]) H):=by
 refine AC.body (N:=42) [.tmp 8,.tmp 9] Tryz.func134 rfl rfl rfl (Nat.le_of_ble_eq_true rfl) fun B hB=>?_
 refine Zhx ?_
 refine Z45 ?_
 refine ao2 Y1k (V2.callo (qb8 h _ hh) rfl rfl) ?_
 refine Zbq ?_
 refine Z1 ?_
 refine qq 13 (.bool (!q51 g h||decide (how<0)||decide (2<how))) ?_ ?_
 ·refine Z44 ?_
  refine Z44 ?_
  refine Zc0 ?_
  refine Z23 ?_
  refine qb rfl rfl (fun hg4=>?_) (fun hg4=>?_)
  ·refine Z62 ?_
   refine Z3b ?_
   refine Zn ?_
   exact Zhi
  ·refine Zl ?_
   refine Z3g ?_
   refine qb rfl rfl (fun hg8=>?_) (fun hg8=>?_)
   ·refine Z3b ?_
    refine Zn ?_
    exact Zhi
   ·refine Z65 ?_
    refine Z3h ?_
    exact Zjg
 refine Z1 ?_
 refine qa rfl (fun hc=>?_) (fun hc=>?_)
 ·rw [show q57 g h n how=(h,1) by rw [q57,if_pos hc]]
  refine Zhz ?_
  try dsimp only
  refine Z1d ?_
  refine Zjh ?_
  exact Zi1
 have hc1:=hc
 clear hc
 refine Z1 ?_
 refine qq 27 (.bool (decide (n<0)||decide ((h.length:Int)≤n))) ?_ ?_
 ·refine Zw ?_
  refine qb rfl rfl (fun hg2=>?_) (fun hg2=>?_)
  ·refine Z4w ?_
   refine Zn ?_
   exact Zhi
  ·refine Zj ?_
   refine Z9r ?_
   refine Z24 ?_
   refine Z3h ?_
   exact Zjg
 refine Z1 ?_
 refine qa rfl (fun hc=>?_) (fun hc=>?_)
 ·rw [show q57 g h n how=(h,6) by rw [q57,if_neg Y1o,if_pos Y1t]]
  refine Zhz ?_
  try dsimp only
  refine Z1d ?_
  refine Zjh ?_
  exact Zi1
 have hn:0≤n∧n<(h.length:Int):=by simp at hc;omega
 rw [show q57 g h n how=(h.set n.toNat how,0) by rw [q57,if_neg Y1o,if_neg (by omega)]]
 obtain ⟨k,rfl⟩:∃ k:Nat,n=(k:Int):=⟨n.toNat,by omega⟩
 obtain ⟨x,hx,_⟩:=qr (l:=h) (k:=k) (by omega)
 have hr:=qk eI hx
 clear hc
 refine Zi6 ?_
 refine Zbc ?_
 refine ao2 Y1w (q1k (sz:=1) (v:=.int .i64 how) (r':=eI how) rfl rfl rfl rfl (qdw hr) rfl rfl rfl (Nat.le_refl 1) rfl) ?_
 refine Zbd ?_
 rw [Nat.zero_add]
 refine Zji ?_
 refine qp (ys:=(h.set k how).map eI) 8 rfl rfl rfl rfl (by rw [List.drop_zero,List.take_of_length_le (by simp),List.map_set]) (by simp) (qd3 0 _) ?_
 refine q2z ?_
 rw [Int.toNat_natCast]
 exact Z5u
theorem qtq (l:List Job) (H:qf) (hl:l.length≤1000000):AC Tryz.prog 233 [.pl (l.map qx)] H (Ret (.pl ((l.map (·.id)).map eI)) H):=by
 refine AC.body (N:=19) [.tmp 2] Tryz.func233 rfl rfl rfl (Nat.le_of_ble_eq_true rfl) fun B hB=>?_
 refine Zhr ?_
 refine q1s (k:=0) 3 1 rfl (by decide) rfl ?_
 refine Zbf ?_
 refine Zc1 ?_
 refine Z1d ?_
 refine qm (G:=Nat) (fun k=>k≤l.length) (fun k=>[(6,.pl (l.map qx)),(7,.int .i64 (l.length:Int)),(8,.int .i64 (k:Int)),(3,.sl (Lid H.length 0) k 0 k k)]) (fun k=>H++[⟨k,1,((l.take k).map (·.id)).map eI⟩]) (fun k=>l.length-k) 0 (Nat.zero_le _) Y8 (Fit.refl _ _) ?_
 intro k hk
 refine Z4r ?_
 refine qa rfl (fun hc=>?_) (fun hc=>?_)
 ·have hlt:k<l.length:=by simpa using hc
  obtain ⟨x,hx,hxl⟩:=qr hlt
  have hr:=qk qx hx
  refine Zfz ?_
  refine Zbh ?_
  refine Zjj ?_
  refine Z8q ?_
  refine Zht ?_
  refine Z8s ?_
  refine Zc2 ?_
  refine Z52 ?_
  refine ⟨k+1,by omega,by omega,Y8,Fit.loc hB (by rw [ql hx,List.map_append,List.map_append,List.take_of_length_le Y1x];rfl) Y1 ?_⟩
  intro o ho r hr
  simp only [List.mem_singleton] at ho
  subst ho
  exact q3a _ _ r hr
 ·have:k=l.length:=by simp at hc;omega
  subst this
  rw [List.take_length]
  refine Z8w ?_
  refine qp (ys:=(l.map (·.id)).map eI) 2 rfl rfl rfl rfl Ym (by simp) (q3a 0 _) ?_
  exact Z8x
abbrev qqv (g:List Thing) (free:List Int) (s:Spec):List AV:=[.pl (g.map qw),.pl (q2n g free),.pl (qrp g),.int .i64 s.nodes,.int .i64 s.cores,.int .i64 s.gpus,.str s.tag,.bool s.whole,.int .i64 s.long,.int .i64 s.prio]
abbrev eSk (g:List Thing) (n a b:Nat) (s:Spec):List AV:=[.pl (g.map qw),.sl (n+a) 0 0 g.length g.length,.sl (n+b) 0 0 g.length g.length,.int .i64 s.nodes,.int .i64 s.cores,.int .i64 s.gpus,.str s.tag,.bool s.whole,.int .i64 s.long,.int .i64 s.prio]
theorem qo7 {H0 L:qf} {k:Nat} {o:AObj}:(H0++L).set (H0.length+k) o=H0++L.set k o:=st rfl
theorem q9a (n:Nat) (f:Nat→List Int) (M:Nat):∀ r∈q2i n f M 0,AV.bels (n+(M+4)) r=true:=by
 intro r hr
 obtain ⟨j,hj,rfl⟩:=List.mem_map.1 hr
 rw [List.mem_range] at hj
 rw [qew,if_neg (Nat.not_lt_zero _)]
 simp [AV.bels,AV.bel]
 omega
theorem qnv {n M K:Nat} {f:Nat→List Int} {r0 r1 r2 r3:AObj} (hK:K=n+(M+4)) (h0:∀ r∈r0.rows,AV.bels K r=true) (h1:∀ r∈r1.rows,AV.bels (n+(M+4)) r=true) (h2:∀ r∈r2.rows,AV.bels (n+(M+4)) r=true) (h3:∀ r∈r3.rows,AV.bels K r=true):∀ o∈[r0,r1,r2,r3]++q4g f M 0,∀ r∈o.rows,AV.bels K r=true:=by
 subst hK
 intro o ho r hr
 rcases List.mem_append.1 ho with ho | ho
 ·simp only [List.mem_cons,List.not_mem_nil,or_false] at ho
  rcases ho with rfl | rfl | rfl | rfl
  ·exact h0 r hr
  ·exact h1 r hr
  ·exact h2 r hr
  ·exact h3 r hr
 ·obtain ⟨j,_,rfl⟩:=List.mem_map.1 ho
  rw [qwl,if_neg (Nat.not_lt_zero _)] at hr
  obtain ⟨x,_,rfl⟩:=List.mem_map.1 hr
  rfl
set_option maxHeartbeats 0 in
theorem qqb (g:List Thing) (free:List Int) (s:Spec) (H:qf) (hg:q2g g=true) (hf:sok free=true):AC Tryz.prog 249 [.pl (g.map qw),.pl (free.map eI),.agg (q1i s)] H (Ret (.pt (Lid H.length 3) 0 0 0) (H++[⟨0,7,[q1i s]⟩,⟨1,1,[]⟩,⟨1,1,[]⟩,⟨0,10,[qqv g free s]⟩])):=by
 have hlen:=q32 hg
 have hfl:=qiw hf
 have hml:(g.map qw).length=g.length:=by simp
 refine AC.body (N:=69) [.tmp 6] Tryz.func249 rfl rfl rfl (Nat.le_of_ble_eq_true rfl) fun B hB=>?_
 refine Z2u ?_
 refine ao1 (by decide) (q11 (v:=.nptr) rfl) ?_
 refine qe ?_
 refine Z2v ?_
 refine Z1 ?_
 refine Za0 ?_
 refine Z6v ?_
 refine Zjk ?_
 refine aqp 2 rfl Y1q (by decide) (fun G=>qhc rfl) ?_
 refine Z6y ?_
 refine aqp 5 rfl Y1q (by decide) (fun G=>qhc rfl) ?_
 refine Zjl ?_
 refine qp5 [3,6] Y1q (by simp) Y1b ?_
 simp only [List.forall_mem_cons,List.not_mem_nil,false_implies,implies_true,and_true]
 refine ⟨?_,?_⟩
 refine aat rfl Y1k (q40 (n:=g.length) (c:=g.length) (bytes:=1) rfl (by decide) (congrArg (fun k:Nat=>AV.int .i64 (k:Int)) hml) (congrArg (fun k:Nat=>AV.int .i64 (k:Int)) hml) (Nat.le_refl _) (by omega) (by omega) rfl) ?_
 refine aqs 6 rfl Y1q Y1b Y1k (q40 (n:=g.length) (c:=g.length) (bytes:=24) rfl (by decide) (congrArg (fun k:Nat=>AV.int .i64 (k:Int)) hml) (congrArg (fun k:Nat=>AV.int .i64 (k:Int)) hml) (Nat.le_refl _) (by omega) (by omega) rfl) ?_
 refine Zjm ?_
 refine Zjn ?_
 refine Zjo ?_
 refine Z1k ?_
 refine Zjp ?_
 rotate_left
 refine aat rfl Y1k (q40 (n:=g.length) (c:=g.length) (bytes:=24) rfl (by decide) (congrArg (fun k:Nat=>AV.int .i64 (k:Int)) hml) (congrArg (fun k:Nat=>AV.int .i64 (k:Int)) hml) (Nat.le_refl _) (by omega) (by omega) rfl) ?_
 refine aqs 3 rfl Y1q Y1b Y1k (q40 (n:=g.length) (c:=g.length) (bytes:=1) rfl (by decide) (congrArg (fun k:Nat=>AV.int .i64 (k:Int)) hml) (congrArg (fun k:Nat=>AV.int .i64 (k:Int)) hml) (Nat.le_refl _) (by omega) (by omega) rfl) ?_
 refine Zjm ?_
 refine Zjn ?_
 refine Zjo ?_
 refine Z1k ?_
 refine Zjp ?_
 rotate_left
 ·refine Z76 ?_
  refine qel (pk:=2) (M:=g.length) rfl (by decide) ?_ rfl
  refine qm (G:=Nat) (fun k=>k≤free.length) (fun k=>[(0,.pl (g.map qw)),(7,.pt (Lid H.length 3) 0 0 0),(22,.pl (free.map eI)),(23,.int .i64 (free.length:Int)),(24,.int .i64 (k:Int))]) (fun k=>H++([⟨0,7,[q1i s]⟩,⟨0,1,q2n g (free.take k)⟩,⟨0,1,gk H.length g.length g.length⟩,⟨0,10,[eSk g H.length 1 2 s]⟩]++List.replicate g.length ⟨0,1,[]⟩)) (fun k=>free.length-k) 0 (Nat.zero_le _) Y8 (.inl (by rw [List.take_zero,qgi];rfl)) ?_
  intro k hk
  refine Z2 ?_
  refine Zjr ?_
  refine Z1 ?_
  refine qa rfl (fun hc=>?_) (fun hc=>?_)
  ·have hlt:k<free.length:=by simpa using hc
   obtain ⟨x,hx,hxl⟩:=qr hlt
   have hr:=qk eI hx
   have hx0:=q82 hf hxl
   obtain ⟨m,rfl⟩:∃ m:Nat,x=(m:Int):=⟨x.toNat,by omega⟩
   clear hc
   refine Zfo ?_
   refine Z11 ?_
   refine Z6t ?_
   refine Z1f ?_
   refine qa rfl (fun hc=>?_) (fun hc=>?_)
   ·have hm:m<g.length:=by simp at hc;omega
    have hrow:(q2n g (free.take k))[0+m]?=some [.bool (inl (free.take k) m)]:=by rw [Nat.zero_add];exact q7f hm
    clear hc
    refine Zit ?_
    refine Zjs ?_
    refine Zjt ?_
    refine Z8 ?_
    refine Zbc ?_
    refine Zju ?_
    refine qe ?_
    refine Zj9 ?_
    refine Z52 ?_
    exact ⟨k+1,by omega,by omega,Y8,.inl (by rw [Nat.zero_add,qgw hx])⟩
   ·have hm:(g.length:Int)≤(m:Int):=by simp at hc;omega
    clear hc
    refine Z52 ?_
    exact ⟨k+1,by omega,by omega,Y8,.inl (by rw [qe7 hx hm])⟩
  have:k=free.length:=by simp at hc;omega
  subst this
  clear hc
  rw [List.take_length]
  refine Z76 ?_
  refine qm (G:=Nat) (fun i=>i≤g.length) (fun i=>[(7,.pt (Lid H.length 3) 0 0 0),(39,.pl (g.map qw)),(40,.int .i64 (g.length:Int)),(41,.int .i64 (i:Int))]) (fun i=>H++([⟨0,7,[q1i s]⟩,⟨0,1,q2n g free⟩,⟨0,1,q2i H.length (q3e g i) g.length 0⟩,⟨0,10,[eSk g H.length 1 2 s]⟩]++q4g (q3e g i) g.length 0)) (fun i=>g.length-i) 0 (Nat.zero_le _) Y8 (.inl (by rw [qvn,qoc];rfl)) ?_
  intro i hi
  refine Z2 ?_
  refine Zjr ?_
  refine Z1 ?_
  refine qa rfl (fun hc=>?_) (fun hc=>?_)
  ·have hlt:i<g.length:=by simpa using hc
   obtain ⟨t,ht,htl⟩:=qr hlt
   have hr:=qk qw ht
   clear hc
   generalize hM:H++([⟨0,7,[q1i s]⟩,⟨0,1,q2n g free⟩,⟨0,1,q2i H.length (q3e g i) g.length 0⟩,⟨0,10,[eSk g H.length 1 2 s]⟩]++q4g (q3e g i) g.length 0)=M
   refine Zjv ?_
   have hS:M[Lid H.length 3]?=some ⟨0,10,[eSk g H.length 1 2 s]⟩:=by rw [← hM];exact lk rfl rfl
   have hK:M[Lid H.length 2]?=some ⟨0,1,q2i H.length (q3e g i) g.length 0⟩:=by rw [← hM];exact lk rfl rfl
   have hF:=hS
   refine Z9u ?_
   refine Z9v ?_
   refine Z3 ?_
   refine Z9w ?_
   refine Z9y ?_
   refine Z58 ?_
   refine Z2p ?_
   refine Z4m ?_
   refine qa rfl (fun hc=>?_) (fun hc=>?_)
   ·have h2:2<t.kind:=by simpa using hc
    obtain ⟨u,hu,hui⟩:=qgl hg ht h2
    clear hc
    obtain ⟨kd,up,tag⟩:=t
    simp only at hu h2
    subst hu
    have hug:u<g.length:=by omega
    have hR:M[Lid H.length (u+4)]?=some ⟨(q3e g i u).length,1,(q3e g i u).map eN1⟩:=by rw [← hM];exact lk rfl (show (q4g (q3e g i) g.length 0)[u]?=_ from qji _ hug)
    have hcell:=qgg (n:=H.length) (q3e g i) hug
    have hle:=qtx g i u
    have hF3:(M.set (Lid H.length (u+4)) ⟨(q3e g i u).length+1,1,((q3e g i u).map eN1).take (q3e g i u).length++[[.int .i64 (i:Int)]]⟩)[Lid H.length 3]?=some ⟨0,10,[eSk g H.length 1 2 s]⟩:=by rw [List.getElem?_set_ne Y1n];exact hS
    have hK3:(M.set (Lid H.length (u+4)) ⟨(q3e g i u).length+1,1,((q3e g i u).map eN1).take (q3e g i u).length++[[.int .i64 (i:Int)]]⟩)[Lid H.length 2]?=some ⟨0,1,q2i H.length (q3e g i) g.length 0⟩:=by rw [List.getElem?_set_ne Y1n];exact hK
    refine Zjw ?_
    refine Z7x ?_
    refine Zgz ?_
    refine Zjx ?_
    refine Zjy ?_
    refine qmh 3 rfl Y1q (by decide) (fun M G hn hp hp2=>qh (v:=.sl (H.length+2) 0 0 g.length g.length) rfl (lkF hp) rfl rfl rfl) ?_
    refine Zjz ?_
    refine Zk0 ?_
    refine Zk1 ?_
    refine Zk2 ?_
    refine Zk3 ?_
    refine qmh 9 rfl Y1q (by decide) (fun M G hn hp hp2=>qh (v:=.sl (H.length+2) 0 0 g.length g.length) rfl (lkF hp) rfl rfl rfl) ?_
    refine Zk4 ?_
    refine Zk5 ?_
    refine Zk6 ?_
    refine Zk7 ?_
    refine Zk8 ?_
    refine Zk9 ?_
    refine Zka ?_
    refine Zkb ?_
    refine Zkc ?_
    refine Z7d ?_
    refine Zkd ?_
    refine Z52 ?_
    refine ⟨i+1,by omega,by omega,Y8,qdr (M':=H++(([⟨0,7,[q1i s]⟩,⟨0,1,q2n g free⟩,⟨0,1,q2i H.length (q3e g (i+1)) g.length 0⟩,⟨0,10,[eSk g H.length 1 2 s]⟩]++q4g (q3e g (i+1)) g.length 0)++[⟨0,3,[qw ⟨kd,(u:Int),tag⟩]⟩])) ?_ (Fit.loc hB rfl Y1 (qnv Y1j Yi (q65 _ g free) (q9a _ _ _) Y5))⟩
    rw [← hM,qo7,qo7,Nat.zero_add,qga ht h2 rfl,← List.append_assoc,← qj4 ht h2 rfl]
    rfl
   ·have h2:¬ 2<t.kind:=by simpa using hc
    have hsame:=qjc (n:=H.length) ht h2
    clear hc
    refine Z52 ?_
    refine ⟨i+1,by omega,by omega,Y8,qdr (M':=H++(([⟨0,7,[q1i s]⟩,⟨0,1,q2n g free⟩,⟨0,1,q2i H.length (q3e g (i+1)) g.length 0⟩,⟨0,10,[eSk g H.length 1 2 s]⟩]++q4g (q3e g (i+1)) g.length 0)++[⟨0,3,[qw t]⟩])) ?_ (Fit.loc hB rfl Y1 (qnv Y1j Yi (q65 _ g free) (q9a _ _ _) Y5))⟩
    rw [← hM,hsame.1,hsame.2,List.append_assoc]
  have:i=g.length:=by simp at hc;omega
  subst this
  clear hc
  refine Zih ?_
  refine Zke ?_
  refine Z1d ?_
  refine qcy (L:=[⟨0,7,[q1i s]⟩,⟨0,1,q2n g free⟩,⟨0,1,q2i H.length (q3e g g.length) g.length 0⟩,⟨0,10,[eSk g H.length 1 2 s]⟩]) (M:=g.length) (pk:=2) (f:=q3e g g.length) rfl (by decide) ?_ rfl
  refine q6v (ys:=q2n g free) (i:=0) (j:=1) (k:=3) (kid:=1) 3 rfl rfl rfl rfl rfl (by decide) rfl rfl (by rw [List.drop_zero];exact List.take_of_length_le (by simp [q2n])) (qgr g free) (q65 0 g free) ?_
  refine q6v (ys:=qrp g) (i:=0) (j:=2) (k:=3) (kid:=2) 3 rfl rfl rfl rfl rfl (by decide) rfl rfl (by rw [List.drop_zero,qh1];exact List.take_of_length_le (by simp [qrp])) (qo6 g) (qp9 0 g) ?_
  refine q2z ?_
  exact qbh (K:=[⟨0,7,[q1i s]⟩,⟨1,1,[]⟩,⟨1,1,[]⟩,⟨0,10,[qqv g free s]⟩]) (G:=q4g (q3e g g.length) g.length g.length) hB (q2o rfl .nil) rfl rfl Y1l (by intro o ho r hr;simp only [List.mem_cons,List.not_mem_nil,or_false] at ho;rcases ho with rfl | rfl | rfl | rfl<;>simp only [List.mem_singleton,List.not_mem_nil] at hr<;>subst hr<;>rfl)
 ·refine Z76 ?_
  refine qel (pk:=1) (M:=g.length) rfl (by decide) ?_ rfl
  refine qm (G:=Nat) (fun k=>k≤free.length) (fun k=>[(0,.pl (g.map qw)),(7,.pt (Lid H.length 3) 0 0 0),(22,.pl (free.map eI)),(23,.int .i64 (free.length:Int)),(24,.int .i64 (k:Int))]) (fun k=>H++([⟨0,7,[q1i s]⟩,⟨0,1,gk H.length g.length g.length⟩,⟨0,1,q2n g (free.take k)⟩,⟨0,10,[eSk g H.length 2 1 s]⟩]++List.replicate g.length ⟨0,1,[]⟩)) (fun k=>free.length-k) 0 (Nat.zero_le _) Y8 (.inl (by rw [List.take_zero,qgi];rfl)) ?_
  intro k hk
  refine Z2 ?_
  refine Zjr ?_
  refine Z1 ?_
  refine qa rfl (fun hc=>?_) (fun hc=>?_)
  ·have hlt:k<free.length:=by simpa using hc
   obtain ⟨x,hx,hxl⟩:=qr hlt
   have hr:=qk eI hx
   have hx0:=q82 hf hxl
   obtain ⟨m,rfl⟩:∃ m:Nat,x=(m:Int):=⟨x.toNat,by omega⟩
   clear hc
   refine Zfo ?_
   refine Z11 ?_
   refine Z6t ?_
   refine Z1f ?_
   refine qa rfl (fun hc=>?_) (fun hc=>?_)
   ·have hm:m<g.length:=by simp at hc;omega
    have hrow:(q2n g (free.take k))[0+m]?=some [.bool (inl (free.take k) m)]:=by rw [Nat.zero_add];exact q7f hm
    clear hc
    refine Zit ?_
    refine Zjs ?_
    refine Zjt ?_
    refine Z8 ?_
    refine Zbc ?_
    refine Zju ?_
    refine qe ?_
    refine Zj9 ?_
    refine Z52 ?_
    exact ⟨k+1,by omega,by omega,Y8,.inl (by rw [Nat.zero_add,qgw hx])⟩
   ·have hm:(g.length:Int)≤(m:Int):=by simp at hc;omega
    clear hc
    refine Z52 ?_
    exact ⟨k+1,by omega,by omega,Y8,.inl (by rw [qe7 hx hm])⟩
  have:k=free.length:=by simp at hc;omega
  subst this
  clear hc
  rw [List.take_length]
  refine Z76 ?_
  refine qm (G:=Nat) (fun i=>i≤g.length) (fun i=>[(7,.pt (Lid H.length 3) 0 0 0),(39,.pl (g.map qw)),(40,.int .i64 (g.length:Int)),(41,.int .i64 (i:Int))]) (fun i=>H++([⟨0,7,[q1i s]⟩,⟨0,1,q2i H.length (q3e g i) g.length 0⟩,⟨0,1,q2n g free⟩,⟨0,10,[eSk g H.length 2 1 s]⟩]++q4g (q3e g i) g.length 0)) (fun i=>g.length-i) 0 (Nat.zero_le _) Y8 (.inl (by rw [qvn,qoc];rfl)) ?_
  intro i hi
  refine Z2 ?_
  refine Zjr ?_
  refine Z1 ?_
  refine qa rfl (fun hc=>?_) (fun hc=>?_)
  ·have hlt:i<g.length:=by simpa using hc
   obtain ⟨t,ht,htl⟩:=qr hlt
   have hr:=qk qw ht
   clear hc
   generalize hM:H++([⟨0,7,[q1i s]⟩,⟨0,1,q2i H.length (q3e g i) g.length 0⟩,⟨0,1,q2n g free⟩,⟨0,10,[eSk g H.length 2 1 s]⟩]++q4g (q3e g i) g.length 0)=M
   refine Zjv ?_
   have hS:M[Lid H.length 3]?=some ⟨0,10,[eSk g H.length 2 1 s]⟩:=by rw [← hM];exact lk rfl rfl
   have hK:M[Lid H.length 1]?=some ⟨0,1,q2i H.length (q3e g i) g.length 0⟩:=by rw [← hM];exact lk rfl rfl
   have hF:=hS
   refine Z9u ?_
   refine Z9v ?_
   refine Z3 ?_
   refine Z9w ?_
   refine Z9y ?_
   refine Z58 ?_
   refine Z2p ?_
   refine Z4m ?_
   refine qa rfl (fun hc=>?_) (fun hc=>?_)
   ·have h2:2<t.kind:=by simpa using hc
    obtain ⟨u,hu,hui⟩:=qgl hg ht h2
    clear hc
    obtain ⟨kd,up,tag⟩:=t
    simp only at hu h2
    subst hu
    have hug:u<g.length:=by omega
    have hR:M[Lid H.length (u+4)]?=some ⟨(q3e g i u).length,1,(q3e g i u).map eN1⟩:=by rw [← hM];exact lk rfl (show (q4g (q3e g i) g.length 0)[u]?=_ from qji _ hug)
    have hcell:=qgg (n:=H.length) (q3e g i) hug
    have hle:=qtx g i u
    have hF3:(M.set (Lid H.length (u+4)) ⟨(q3e g i u).length+1,1,((q3e g i u).map eN1).take (q3e g i u).length++[[.int .i64 (i:Int)]]⟩)[Lid H.length 3]?=some ⟨0,10,[eSk g H.length 2 1 s]⟩:=by rw [List.getElem?_set_ne Y1n];exact hS
    have hK3:(M.set (Lid H.length (u+4)) ⟨(q3e g i u).length+1,1,((q3e g i u).map eN1).take (q3e g i u).length++[[.int .i64 (i:Int)]]⟩)[Lid H.length 1]?=some ⟨0,1,q2i H.length (q3e g i) g.length 0⟩:=by rw [List.getElem?_set_ne Y1n];exact hK
    refine Zjw ?_
    refine Z7x ?_
    refine Zgz ?_
    refine Zjx ?_
    refine Zjy ?_
    refine qmh 3 rfl Y1q (by decide) (fun M G hn hp hp2=>qh (v:=.sl (H.length+1) 0 0 g.length g.length) rfl (lkF hp) rfl rfl rfl) ?_
    refine Zjz ?_
    refine Zk0 ?_
    refine Zk1 ?_
    refine Zk2 ?_
    refine Zk3 ?_
    refine qmh 9 rfl Y1q (by decide) (fun M G hn hp hp2=>qh (v:=.sl (H.length+1) 0 0 g.length g.length) rfl (lkF hp) rfl rfl rfl) ?_
    refine Zk4 ?_
    refine Zk5 ?_
    refine Zk6 ?_
    refine Zk7 ?_
    refine Zk8 ?_
    refine Zk9 ?_
    refine Zka ?_
    refine Zkb ?_
    refine Zkc ?_
    refine Z7d ?_
    refine Zkd ?_
    refine Z52 ?_
    refine ⟨i+1,by omega,by omega,Y8,qdr (M':=H++(([⟨0,7,[q1i s]⟩,⟨0,1,q2i H.length (q3e g (i+1)) g.length 0⟩,⟨0,1,q2n g free⟩,⟨0,10,[eSk g H.length 2 1 s]⟩]++q4g (q3e g (i+1)) g.length 0)++[⟨0,3,[qw ⟨kd,(u:Int),tag⟩]⟩])) ?_ (Fit.loc hB rfl Y1 (qnv Y1j Yi (q9a _ _ _) (q65 _ g free) Y5))⟩
    rw [← hM,qo7,qo7,Nat.zero_add,qga ht h2 rfl,← List.append_assoc,← qj4 ht h2 rfl]
    rfl
   ·have h2:¬ 2<t.kind:=by simpa using hc
    have hsame:=qjc (n:=H.length) ht h2
    clear hc
    refine Z52 ?_
    refine ⟨i+1,by omega,by omega,Y8,qdr (M':=H++(([⟨0,7,[q1i s]⟩,⟨0,1,q2i H.length (q3e g (i+1)) g.length 0⟩,⟨0,1,q2n g free⟩,⟨0,10,[eSk g H.length 2 1 s]⟩]++q4g (q3e g (i+1)) g.length 0)++[⟨0,3,[qw t]⟩])) ?_ (Fit.loc hB rfl Y1 (qnv Y1j Yi (q9a _ _ _) (q65 _ g free) Y5))⟩
    rw [← hM,hsame.1,hsame.2,List.append_assoc]
  have:i=g.length:=by simp at hc;omega
  subst this
  clear hc
  refine Zih ?_
  refine Zke ?_
  refine Z1d ?_
  refine qcy (L:=[⟨0,7,[q1i s]⟩,⟨0,1,q2i H.length (q3e g g.length) g.length 0⟩,⟨0,1,q2n g free⟩,⟨0,10,[eSk g H.length 2 1 s]⟩]) (M:=g.length) (pk:=1) (f:=q3e g g.length) rfl (by decide) ?_ rfl
  refine q6v (ys:=q2n g free) (i:=0) (j:=1) (k:=3) (kid:=2) 3 rfl rfl rfl rfl rfl (by decide) rfl rfl (by rw [List.drop_zero];exact List.take_of_length_le (by simp [q2n])) (qgr g free) (q65 0 g free) ?_
  refine q6v (ys:=qrp g) (i:=0) (j:=2) (k:=3) (kid:=1) 3 rfl rfl rfl rfl rfl (by decide) rfl rfl (by rw [List.drop_zero,qh1];exact List.take_of_length_le (by simp [qrp])) (qo6 g) (qp9 0 g) ?_
  refine q2z ?_
  exact qbh (K:=[⟨0,7,[q1i s]⟩,⟨1,1,[]⟩,⟨1,1,[]⟩,⟨0,10,[qqv g free s]⟩]) (G:=q4g (q3e g g.length) g.length g.length) hB (q2o rfl .nil) rfl rfl Y1l (by intro o ho r hr;simp only [List.mem_cons,List.not_mem_nil,or_false] at ho;rcases ho with rfl | rfl | rfl | rfl<;>simp only [List.mem_singleton,List.not_mem_nil] at hr<;>subst hr<;>rfl)
theorem qld (g:List Thing) (free:List Int) (kind most:Int):q8g g free kind most []=[]:=by simp [q8g]
theorem q11s (l:List Int):∀ r∈l.map eN1,r.length=1:=q5a (e:=eN1) (n:=1) (fun _=>rfl) l
set_option maxHeartbeats 0 in
theorem qg6 (g:List Thing) (free:List Int) (s:Spec) (node:Nat) (kind most:Int) (p:Nat) (H:qf) (hg:q2g g=true) (hn:node<g.length) (hid:H[p]?=some ⟨0,10,[qqv g free s]⟩):AC Tryz.prog 259 [.pt p 0 0 0,.int .i64 (node:Int),.int .i64 kind,.int .i64 most] H (Ret (.pl ((q8s g free node kind most).map eN1)) H):=by
 have hF:=hid
 have hp0:p<H.length:=(List.getElem?_eq_some_iff.1 hid).1
 have hkr:=qnt hn
 have hkl:=qbc hg node
 have hmem:∀ x∈q6h g node,∃ k:Nat,x=(k:Int)∧k<g.length:=fun x hx=>qon hx
 rw [quc]
 generalize q6h g node=l at hkr hkl hmem
 refine AC.body (N:=55) [.tmp 8] Tryz.func259 rfl rfl rfl (Nat.le_of_ble_eq_true rfl) fun B hB=>?_
 refine Zhr ?_
 refine q1s (k:=0) 9 1 rfl (by decide) rfl ?_
 refine Zit ?_
 refine Zij ?_
 refine Zil ?_
 refine Z8 ?_
 refine Zkf ?_
 refine Zkg ?_
 refine Z4o ?_
 refine Zkh ?_
 refine Z1d ?_
 refine qm (G:=Nat) (fun k=>k≤l.length) (fun k=>[(0,.pt p 0 0 0),(2,.int .i64 kind),(3,.int .i64 most),(9,.sl (Lid H.length 0) (q8g g free kind most (l.take k)).length 0 (q8g g free kind most (l.take k)).length (q8g g free kind most (l.take k)).length),(18,.pl (l.map eN1)),(19,.int .i64 (l.length:Int)),(20,.int .i64 (k:Int))]) (fun k=>H++[⟨(q8g g free kind most (l.take k)).length,1,(q8g g free kind most (l.take k)).map eN1⟩]) (fun k=>l.length-k) 0 (Nat.zero_le _) (by simp only [List.take_zero,qld];exact Y8) (.inl (by rw [List.take_zero,qld];rfl)) ?_
 intro k hk
 refine Z4r ?_
 refine qa rfl (fun hc=>?_) (fun hc=>?_)
 ·have hlt:k<l.length:=by simpa using hc
  obtain ⟨x,hx,hxl⟩:=qr hlt
  have hr:=qk eN1 hx
  obtain ⟨m,rfl,hm⟩:=hmem x hxl
  obtain ⟨t,ht,_⟩:=qr hm
  have hrT:=qk qw ht
  have hrI:=q7f (l:=free) hm
  have hst:=qr0 (g:=g) (free:=free) (kind:=kind) (most:=most) hx
  have hle:=qoh g free kind most (l.take k)
  rw [List.length_take] at hle
  rw [Int.toNat_natCast,show q4f g m=t.kind by rw [q4f,ht]] at hst
  generalize q8g g free kind most (l.take k)=acc at hst hle ⊢
  clear hc hmem hkr
  refine Z4v ?_
  refine Za ?_
  refine qq 48 (.bool (decide ((acc.length:Int)<most)&&(inl free m&&decide (t.kind=kind)))) ?_ ?_
  ·refine Z8n ?_
   refine Zki ?_
   refine Zw ?_
   refine qb rfl rfl (fun hg4=>?_) (fun hg4=>?_)
   ·refine Zkj ?_
    refine Zkk ?_
    refine Zkl ?_
    refine q1j rfl rfl (by decide) (qh (v:=.pl (q2n g free)) rfl (lkF hF) rfl rfl rfl) ?_
    refine Zj ?_
    refine q1j rfl rfl (by decide) (q16 rfl rfl hrI rfl) ?_
    refine q1j rfl rfl (by decide) (q29 (v:=.bool _) rfl hrI rfl) ?_
    refine Z34 ?_
    refine qb rfl rfl (fun hg13=>?_) (fun hg13=>?_)
    ·refine Zkj ?_
     refine Zkk ?_
     refine Zkl ?_
     refine q1j rfl rfl (by decide) (qh (v:=.pl (g.map qw)) rfl (lkF hF) rfl rfl rfl) ?_
     refine Zj ?_
     refine q1j rfl rfl (by decide) (q16 rfl rfl hrT rfl) ?_
     refine Zkm ?_
     refine q1j rfl rfl (by decide) (q29 (v:=.int _ _) rfl hrT rfl) ?_
     refine Z5r ?_
     refine Zm ?_
     exact qe (Out.mk (by (refine congrArg AV.bool ?_;(clear hB hst hr hrT hrI ht;grind))) Yb)
    ·refine Z29 ?_
     refine Z29 ?_
     refine Zs ?_
     exact qe (Out.mk (by (refine congrArg AV.bool ?_;(clear hB hst hr hrT hrI ht;(simp_all;done)))) Yb)
   ·refine Z29 ?_
    refine Zcb ?_
    refine Ze5 ?_
    exact qe (Out.mk (by (refine congrArg AV.bool ?_;(clear hB hst hr hrT hrI ht;(simp_all;omega)))) Yb)
  refine Z1 ?_
  refine qa rfl (fun hc=>?_) (fun hc=>?_)
  ·rw [if_pos hc] at hst
   refine Zbi ?_
   refine Z8 ?_
   refine Z8q ?_
   refine Z8t ?_
   refine Zc2 ?_
   rw [show (acc.map eN1).take acc.length=acc.map eN1 from List.take_of_length_le (by simp)]
   refine Z52 ?_
   exact ⟨k+1,by omega,by omega,by rw [hst,List.length_append];exact Y8,by rw [hst,List.length_append];exact Fit.loc hB Y1a Y1 (by intro o ho r hr;simp only [List.mem_singleton] at ho;subst ho;exact q3a _ _ r hr)⟩
  ·rw [if_neg Y1p] at hst
   refine Z52 ?_
   exact ⟨k+1,by omega,by omega,by rw [hst];exact Y8,by rw [hst];exact Fit.refl _ _⟩
 ·have:k=l.length:=by simp at hc;omega
  subst this
  rw [List.take_length]
  refine Z8w ?_
  refine qp (ys:=(q8g g free kind most l).map eN1) 8 rfl rfl rfl rfl Ym (by simp) (q3a 0 _) ?_
  exact Z8x
set_option maxHeartbeats 0 in
theorem qpv (g:List Thing) (free:List Int) (s:Spec) (node:Nat) (p:Nat) (H:qf) (hg:q2g g=true) (hn:node<g.length) (hid:H[p]?=some ⟨0,10,[qqv g free s]⟩):ACT Tryz.prog KD 250 [.pt p 0 0 0,.int .i64 (node:Int)] H (Ret (.tup [.pl ((qbj g free s node).1.map eN1),.bool (qbj g free s node).2]) H):=by
 have hF:=hid
 have hp0:p<H.length:=(List.getElem?_eq_some_iff.1 hid).1
 have hkr:=qnt hn
 have hkl:=qbc hg node
 have hmem:∀ x∈q6h g node,∃ k:Nat,x=(k:Int)∧k<g.length:=fun x hx=>qon hx
 obtain ⟨t,ht,_⟩:=qr hn
 have hrT:=qk qw ht
 have hrI:=q7f (l:=free) hn
 have l3:=qou hg free node 3 s.cores
 have l4:=qou hg free node 4 s.gpus
 refine ACT.body (N:=123) [.tmp 4,.tmp 5] Tryz.func250 rfl rfl rfl (Nat.le_of_ble_eq_true rfl) fun B hB=>?_
 refine Zkn ?_
 refine Zik ?_
 refine ao1 (by decide) (qh (v:=.pl (g.map qw)) rfl (lkF hF) rfl rfl rfl) ?_
 refine Z8 ?_
 refine ao1 (by decide) (q16 rfl rfl hrT rfl) ?_
 refine ao1 (by decide) (q94 rfl hrT rfl) ?_
 refine Z9v ?_
 refine Z9w ?_
 refine qe ?_
 try dsimp only [put,List.length_nil,Nat.reduceAdd,List.nil_append,List.set_cons_zero]
 refine Z1 ?_
 refine q20 48 (.bool (!(decide (t.kind=2)&&inl free node&&(decide (s.tag=⟨#[]⟩)||decide (t.tag=s.tag))))) ?_ ?_
 ·refine Za0 ?_
  refine Za1 ?_
  refine Za2 ?_
  refine aq0 2 rfl Y1q (by decide) (fun _=>qyz rfl rfl) ?_
  refine Z7l ?_
  refine q13 (g:=21) rfl (fun hg3=>?_) (fun hg3=>?_)
  ·refine Zko ?_
   refine Zkp ?_
   refine Zkq ?_
   refine Zdl ?_
   refine Zdm ?_
   refine Zdn ?_
   refine Zdo ?_
   refine Zdp ?_
   refine Zkr ?_
   refine Zks ?_
   refine Zkt ?_
   refine Zku ?_
   refine Zkv ?_
   refine Zkw ?_
   refine Zkx ?_
   refine Zky ?_
   refine Zkz ?_
   refine Zl0 ?_
   refine Zl1 ?_
   refine Zl2 ?_
   refine Zl3 ?_
   refine Zl4 ?_
   refine Zl5 ?_
   refine Zl6 ?_
   refine Zl7 ?_
   refine Zl8 ?_
   refine Zl9 ?_
   exact Zla
  ·refine q2l (g:=21) 4 rfl Y1q (by decide) rfl rfl (fun _=>qi (v:=.pt _ _ _ _) rfl) ?_
   refine q31 (g:=21) 5 rfl Y1q (by decide) rfl rfl (fun G=>qy rfl (lkF hF) rfl) ?_
   refine q31 (g:=21) 6 rfl Y1q (by decide) rfl rfl (fun G=>qd rfl (lkF hF) rfl (by decide)) ?_
   refine q31 (g:=21) 7 rfl Y1q (by decide) rfl rfl (fun G=>qh (v:=.pl (q2n g free)) rfl (lkF hF) rfl rfl rfl) ?_
   refine q2l (g:=21) 8 rfl Y1q (by decide) rfl rfl (fun _=>qi (v:=.int _ _) rfl) ?_
   refine q31 (g:=21) 9 rfl Y1q (by decide) rfl rfl (fun G=>q16 rfl rfl hrI rfl) ?_
   refine q31 (g:=21) 10 rfl Y1q (by decide) rfl rfl (fun G=>q29 (v:=.bool _) rfl hrI rfl) ?_
   refine q2l (g:=21) 11 rfl Y1q (by decide) rfl rfl (fun _=>qc1 rfl) ?_
   refine Zlb ?_
   refine Zks ?_
   refine q13 (g:=31) rfl (fun hg13=>?_) (fun hg13=>?_)
   ·refine Zkt ?_
    refine Zku ?_
    refine Zkv ?_
    refine Zkw ?_
    refine Zkx ?_
    refine Zky ?_
    refine Zkz ?_
    refine Zl0 ?_
    refine Zl1 ?_
    refine Zl2 ?_
    refine Zl3 ?_
    refine Zl4 ?_
    refine Zl5 ?_
    refine Zl6 ?_
    refine Zl7 ?_
    refine Zl8 ?_
    refine Zl9 ?_
    exact Zla
   ·refine q2l (g:=31) 14 rfl Y1q (by decide) rfl rfl (fun _=>qi (v:=.pt _ _ _ _) rfl) ?_
    refine q31 (g:=31) 15 rfl Y1q (by decide) rfl rfl (fun G=>qy rfl (lkF hF) rfl) ?_
    refine q31 (g:=31) 16 rfl Y1q (by decide) rfl rfl (fun G=>qd rfl (lkF hF) rfl (by decide)) ?_
    refine q31 (g:=31) 17 rfl Y1q (by decide) rfl rfl (fun G=>qd rfl (lkF hF) rfl (by decide)) ?_
    refine q31 (g:=31) 18 rfl Y1q (by decide) rfl rfl (fun G=>qh (v:=.str s.tag) rfl (lkF hF) rfl rfl rfl) ?_
    refine q2l (g:=31) 19 rfl Y1q (by decide) rfl rfl (fun _=>qny rfl rfl) ?_
    refine q2l (g:=31) 20 rfl Y1q (by decide) rfl rfl (fun _=>qi (v:=.bool _) rfl) ?_
    refine q13 (g:=38) rfl (fun hg20=>?_) (fun hg20=>?_)
    ·refine q31 (g:=38) 21 rfl Y1q (by decide) rfl rfl (fun G=>qd rfl (lk rfl rfl) rfl (by decide)) ?_
     refine q31 (g:=38) 22 rfl Y1q (by decide) rfl rfl (fun G=>qh (v:=.str _) rfl (lk rfl rfl) rfl rfl rfl) ?_
     refine q2l (g:=38) 23 rfl Y1q (by decide) rfl rfl (fun _=>qi (v:=.pt _ _ _ _) rfl) ?_
     refine q31 (g:=38) 24 rfl Y1q (by decide) rfl rfl (fun G=>qy rfl (lkF hF) rfl) ?_
     refine q31 (g:=38) 25 rfl Y1q (by decide) rfl rfl (fun G=>qd rfl (lkF hF) rfl (by decide)) ?_
     refine q31 (g:=38) 26 rfl Y1q (by decide) rfl rfl (fun G=>qd rfl (lkF hF) rfl (by decide)) ?_
     refine q31 (g:=38) 27 rfl Y1q (by decide) rfl rfl (fun G=>qh (v:=.str s.tag) rfl (lkF hF) rfl rfl rfl) ?_
     refine q2l (g:=38) 28 rfl Y1q (by decide) rfl rfl (fun _=>qny rfl rfl) ?_
     refine q2l (g:=31) 29 rfl Y1q (by decide) rfl rfl (fun _=>q1n (v:=.bool _) rfl rfl) ?_
     refine Zlc ?_
     exact Zla
    ·refine q15 (g:=38) 21 rfl Y1q (by decide) rfl rfl rfl ?_
     refine q15 (g:=38) 22 rfl Y1q (by decide) rfl rfl rfl ?_
     refine q15 (g:=38) 23 rfl Y1q (by decide) rfl rfl rfl ?_
     refine q15 (g:=38) 24 rfl Y1q (by decide) rfl rfl rfl ?_
     refine q15 (g:=38) 25 rfl Y1q (by decide) rfl rfl rfl ?_
     refine q15 (g:=38) 26 rfl Y1q (by decide) rfl rfl rfl ?_
     refine q15 (g:=38) 27 rfl Y1q (by decide) rfl rfl rfl ?_
     refine q15 (g:=38) 28 rfl Y1q (by decide) rfl rfl rfl ?_
     refine q2l (g:=31) 29 rfl Y1q (by decide) rfl rfl (fun _=>q1m (v:=.bool _) rfl rfl) ?_
     refine Zlc ?_
     exact Zla
 have hmh:qbj g free s node=if !(decide (t.kind=2)&&inl free node&&(decide (s.tag=⟨#[]⟩)||decide (t.tag=s.tag))) then ([],false)
  else if decide (((q8s g free node 3 s.cores).length:Int)<s.cores)||decide (((q8s g free node 4 s.gpus).length:Int)<s.gpus) then ([],false)
  else if !s.whole then (qff (q8s g free node 3 s.cores) (q8s g free node 4 s.gpus),true)
  else if (q6h g node).all (fun n=>inl free n.toNat) then ((node:Int) :: q6h g node,true) else ([],false):=by
  rw [qbj,show q4f g node=t.kind by rw [q4f,ht],show q11p g node=t.tag by rw [q11p,ht]]
 rw [hmh]
 clear hmh
 refine Z1 ?_
 refine qa rfl (fun hc=>?_) (fun hc=>?_)
 ·rw [if_pos hc]
  refine Zkn ?_
  try dsimp only
  refine Z1d ?_
  refine q23 4 rfl ?_
  exact Zi1
 rw [if_neg Y1p]
 clear hc
 have ck3:=fun H=>qg6 g free s node 3 s.cores p H hg hn
 have ck4:=fun H=>qg6 g free s node 4 s.gpus p H hg hn
 generalize q8s g free node 3 s.cores=c3 at ck3 l3 ⊢
 generalize q8s g free node 4 s.gpus=c4 at ck4 l4 ⊢
 refine Z1 ?_
 refine Za0 ?_
 refine Zgz ?_
 refine Z1i ?_
 refine aq0 2 rfl Y1q (by decide) (fun _=>qi (v:=.pt _ _ _ _) rfl) ?_
 refine aqp 3 rfl Y1q (by decide) (fun G=>qy rfl (lkF hF) rfl) ?_
 refine Zld ?_
 refine aqp 5 rfl Y1q (by decide) (fun G=>qd rfl (lkF hF) rfl (by decide)) ?_
 refine aqp 6 rfl Y1q (by decide) (fun G=>qh (v:=.int .i64 s.cores) rfl (lkF hF) rfl rfl rfl) ?_
 refine aqp2 7 rfl Y1q (by decide) (fun G=>V2.call (ck3 _ (lkF hF)) rfl) ?_
 refine aq0 8 rfl Y1q (by decide) (fun _=>qi (v:=.pt _ _ _ _) rfl) ?_
 refine Zjf ?_
 refine Zh9 ?_
 refine Zha ?_
 refine Zhb ?_
 refine Zhc ?_
 refine aqp 14 rfl Y1q (by decide) (fun G=>qh (v:=.int .i64 s.gpus) rfl (lkF hF) rfl rfl rfl) ?_
 refine aqp2 15 rfl Y1q (by decide) (fun G=>V2.call (ck4 _ (lkF hF)) rfl) ?_
 refine Zle ?_
 refine Zhe ?_
 refine Zhf ?_
 refine Z1 ?_
 refine qq 82 (.bool (decide ((c3.length:Int)<s.cores)||decide ((c4.length:Int)<s.gpus))) ?_ ?_
 ·refine Z6t ?_
  refine Ziu ?_
  refine Zii ?_
  refine ao1 (by decide) (qh (v:=.int .i64 s.cores) rfl (lkF hF) rfl rfl rfl) ?_
  refine Zv ?_
  refine qb rfl rfl (fun hg8=>?_) (fun hg8=>?_)
  ·refine Z4w ?_
   refine Z4x ?_
   exact qe (Out.mk (by (refine congrArg AV.bool ?_;(clear hB ck3 ck4 hmem hkr;(simp_all;done)))) Yb)
  ·refine Z9r ?_
   refine Zkj ?_
   refine Zkk ?_
   refine Zkl ?_
   refine Zkl ?_
   refine q1j rfl rfl (by decide) (qh (v:=.int .i64 s.gpus) rfl (lkF hF) rfl rfl rfl) ?_
   refine Zk ?_
   refine Zr ?_
   exact qe (Out.mk (by (refine congrArg AV.bool ?_;(clear hB ck3 ck4 hmem hkr;(simp_all;omega)))) Yb)
 refine Z1 ?_
 refine qa rfl (fun hc=>?_) (fun hc=>?_)
 ·rw [if_pos hc]
  refine Zkn ?_
  try dsimp only
  refine Z1d ?_
  refine q23 4 rfl ?_
  exact Zi1
 rw [if_neg Y1p]
 clear hc ck3 ck4
 refine Zik ?_
 refine Zii ?_
 refine ao1 (by decide) (qh (v:=.bool s.whole) rfl (lkF hF) rfl rfl rfl) ?_
 refine Z19 ?_
 refine Z4m ?_
 refine qa rfl (fun hc=>?_) (fun hc=>?_)
 ·rw [if_pos hc]
  refine Z7t ?_
  refine ao2 Y1k (V2.callT (qj1 c3 c4 (by omega) (by omega) _) rfl rfl) ?_
  refine Z4c ?_
  refine Zbs ?_
  exact Ze6
 rw [if_neg Y1p]
 clear hc
 generalize q6h g node=l at hkr hkl hmem
 refine Zik ?_
 refine Zlf ?_
 refine Z8 ?_
 refine Zkf ?_
 refine Zkg ?_
 refine Z4q ?_
 refine qm (G:=Nat) (fun k=>k≤l.length∧∀ x∈l.take k,inl free x.toNat=true) (fun k=>[(0,.pt p 0 0 0),(1,.int .i64 (node:Int)),(98,.pl (l.map eN1)),(99,.int .i64 (l.length:Int)),(100,.int .i64 (k:Int))]) (fun _=>H++[⟨0,3,[qw t]⟩]) (fun k=>l.length-k) 0 ⟨Nat.zero_le _,by simp⟩ Y8 (.inl rfl) ?_
 rintro k ⟨hk,hno⟩
 refine Z4r ?_
 refine qa rfl (fun hc=>?_) (fun hc=>?_)
 ·have hlt:k<l.length:=by simpa using hc
  obtain ⟨x,hx,hxl⟩:=qr hlt
  have hr:=qk eN1 hx
  obtain ⟨m,rfl,hm⟩:=hmem x hxl
  have hrI2:=q7f (l:=free) hm
  clear hc
  refine Zfo ?_
  refine Zik ?_
  refine ao1 (by decide) (qh (v:=.pl (q2n g free)) rfl (lkF hF) rfl rfl rfl) ?_
  refine Z8 ?_
  refine ao1 (by decide) (q16 rfl rfl hrI2 rfl) ?_
  refine ao1 (by decide) (q29 (v:=.bool _) rfl hrI2 rfl) ?_
  refine Z19 ?_
  refine Z4m ?_
  refine qa rfl (fun hc=>?_) (fun hc=>?_)
  ·have hbad:l.all (fun n=>inl free n.toNat)=false:=by
    rw [List.all_eq_false]
    exact ⟨_,hxl,by rw [Int.toNat_natCast];simpa using hc⟩
   rw [if_neg (by rw [hbad];decide)]
   refine Zkn ?_
   try dsimp only
   refine Z1d ?_
   refine q23 4 rfl ?_
   exact Zi1
  ·refine Z52 ?_
   refine ⟨k+1,by omega,⟨by omega,?_⟩,Y8,.inl rfl⟩
   rw [ql hx]
   intro y hy
   rcases List.mem_append.1 hy with h | h
   ·exact hno y h
   ·simp only [List.mem_singleton] at h
    subst h
    rw [Int.toNat_natCast]
    simpa using hc
 ·have:k=l.length:=by simp at hc;omega
  subst this
  rw [List.take_length] at hno
  rw [if_pos (List.all_eq_true.2 hno)]
  clear hc
  refine Z11 ?_
  refine ao2 Y1k (q2c (sz:=1) (v:=.int .i64 (node:Int)) (cs:=[.int .i64 (node:Int)]) rfl (by decide) (by decide) rfl rfl rfl rfl rfl) ?_
  refine Ziu ?_
  refine Zlf ?_
  refine Z8 ?_
  refine Zkf ?_
  refine Zkg ?_
  refine ao2 Y1k (qio rfl rfl rfl rfl rfl (Src.pl rfl (q11s l)) rfl (by simp) Y1x Y1x) ?_
  refine Z8r ?_
  refine Z1n ?_
  try dsimp only [List.length_cons,List.length_nil,Nat.reduceAdd,put,List.cons_append,List.nil_append,List.take_succ_cons,List.take_zero,List.set_cons_succ,List.set_cons_zero]
  refine Z1d ?_
  refine qp (ys:=((node:Int) :: l).map eN1) 4 rfl rfl rfl rfl (by rw [List.drop_zero];exact List.take_of_length_le Y1x) Y1x (q3a 0 _) ?_
  exact Zi1
theorem qt2 (g:List Thing) (free:List Int) (s:Spec) (H:qf) (hl:g.length≤1000000) (hf:free.length≤1000000):AC Tryz.prog 248 [.pl (g.map qw),.pl (free.map eI),.agg (q1i s)] H (Ret (.bool (mmay g free s)) H):=by
 refine AC.body (N:=17) [.tmp 6] Tryz.func248 rfl rfl rfl (Nat.le_of_ble_eq_true rfl) fun B hB=>?_
 refine Z2u ?_
 refine Z2x ?_
 refine qq 6 (.bool (mmay g free s)) ?_ ?_
 ·refine Z44 ?_
  refine Zhh ?_
  refine Zh ?_
  refine qb rfl rfl (fun hg2=>?_) (fun hg2=>?_)
  ·refine Z9p ?_
   refine Zc8 ?_
   refine Z34 ?_
   refine qb rfl rfl (fun hg6=>?_) (fun hg6=>?_)
   ·refine Z5i ?_
    refine Z5h ?_
    refine Zn ?_
    exact Zlg
   ·refine Zt ?_
    exact Zlg
  ·refine Z5n ?_
   refine Zt ?_
   exact Zlg
 exact Z20
theorem V2.callK {P:Program} {N:Nat} {env:Env} {H0 L K:qf} {ty:TypeId} {f:Nat} {xs:Array Operand} {ts:Array TypeId} {vs:List AV} {v v':AV} [FnI P f] (hac:AC P f vs (H0++L) (Ret v' ((H0++L)++K))) (hvs:xs.toList.map (aev env)=vs) (hv:v'=v) :
  V2 P N (.call { callee:=.value (.func f),args:=xs,argTypes:=ts }) ty env (H0++L) v (H0++(L++K)):=by
 subst hv
 have:=V2.call (N:=N) (ty:=ty) (ts:=ts) hac hvs
 rwa [List.append_assoc] at this
set_option maxHeartbeats 0 in
theorem qg8 (g:List Thing) (free:List Int) (s:Spec) (H:qf) (hl:g.length≤1000000) (hf:free.length≤1000000):ACT Tryz.prog KD 229 [.pl (g.map qw),.pl (free.map eI),.agg (q1i s)] H (Ret (.tup [.pl ((qb9 g free s).1.map eN1),.bool (qb9 g free s).2]) H):=by
 refine ACT.body (N:=50) [.tmp 6,.tmp 7] Tryz.func229 rfl rfl rfl (Nat.le_of_ble_eq_true rfl) fun B hB=>?_
 refine Z2u ?_
 refine Z41 ?_
 refine Z2w ?_
 refine Z7t ?_
 refine Z3u ?_
 refine qu (qt2 _ _ _ _ (by omega) (by omega)) rfl (by decide) ?_
 refine Z3x ?_
 refine qa rfl (fun hc=>?_) (fun hc=>?_)
 ·have hno:qb9 g free s=([],false):=by rw [qb9,if_pos hc]
  rw [hno]
  refine Zkn ?_
  try dsimp only
  refine Z1d ?_
  refine q23 6 rfl ?_
  exact Zi1
 have hmay:mmay g free s=true:=by simpa only [Bool.not_eq_false'] using hc
 have hmay':=hmay
 simp only [mmay,Bool.and_eq_true] at hmay'
 obtain ⟨⟨hg,hfs⟩,hss⟩:=hmay'
 have hlen:=q32 hg
 have hsf:=q4s hss
 have hfind:qb9 g free s=if 0<(q2j g free s g.length).2 then ([],false) else ((q2j g free s g.length).1,true):=by rw [qb9,hmay];rfl
 rw [hfind]
 clear hc hfind
 refine Z7t ?_
 refine Z3u ?_
 refine ao2 Y1k (V2.callK (v:=.pt (Lid H.length 4) 0 0 0) (qqb g free s _ hg hfs) rfl (by simp [Lid])) ?_
 refine Zke ?_
 refine Zlh ?_
 refine Z43 ?_
 refine Z58 ?_
 refine Z40 ?_
 refine Z1e ?_
 refine q23 9 rfl ?_
 refine qm (G:=Nat) (fun i=>i≤g.length) (fun i=>[(KT,KD.av),(0,.pl (g.map qw)),(8,.pt (Lid H.length 4) 0 0 0),(9,.pl ((q2j g free s i).1.map eN1)),(10,.int .i64 (q2j g free s i).2),(11,.int .i64 (i:Int))]) (fun _=>H++[⟨0,7,[q1i s]⟩,⟨0,7,[q1i s]⟩,⟨1,1,[]⟩,⟨1,1,[]⟩,⟨0,10,[qqv g free s]⟩]) (fun i=>g.length-i) 0 (Nat.zero_le _) Y8 (.inl rfl) ?_
 intro i hi
 have hle:=qf0 (g:=g) free s i
 have hlf:=qfd (g:=g) free s i
 refine Z1 ?_
 refine qq 32 (.bool (decide (i<g.length)&&decide (0<(q2j g free s i).2))) ?_ ?_
 ·refine Z8 ?_
  refine Z6t ?_
  refine Zv ?_
  refine qb rfl rfl (fun hg4=>?_) (fun hg4=>?_)
  ·refine Z65 ?_
   refine Zm ?_
   exact Zhi
  ·refine Zs ?_
   exact Zjg
 refine Z1 ?_
 refine qa rfl (fun hc=>?_) (fun hc=>?_)
 ·rw [Bool.and_eq_true,decide_eq_true_eq,decide_eq_true_eq] at hc
  obtain ⟨hlt,hpos⟩:=hc
  have hst:q2j g free s (i+1)=if 0<(q2j g free s i).2∧(qbj g free s i).2=true then (qff (q2j g free s i).1 (qbj g free s i).1,(q2j g free s i).2-1) else q2j g free s i:=rfl
  have hml:=qxh hg free s i
  refine Zih ?_
  refine Z8 ?_
  refine ao2 Y1k (V2.callT (qpv g free s i (Lid H.length 4) _ hg hlt (lk rfl rfl)) rfl rfl) ?_
  refine Zio ?_
  refine Z6f ?_
  refine Z4c ?_
  refine Zbs ?_
  generalize qbj g free s i=h at hst hml ⊢
  obtain ⟨hx,ok⟩:=h
  simp only at hst hml ⊢
  refine Z2n ?_
  refine Z9 ?_
  refine qa rfl (fun hc=>?_) (fun hc=>?_)
  ·subst hc
   rw [if_pos ⟨hpos,rfl⟩] at hst
   refine Z7t ?_
   refine ao2 Y1k (V2.callT (qj1 (q2j g free s i).1 hx (by omega) (by omega) _) rfl rfl) ?_
   refine Z4d ?_
   refine Z11 ?_
   refine ao1 (by decide) (q30 (r:=(q2j g free s i).2-1) rfl rfl (qc (by omega) (by omega))) ?_
   refine Z4 ?_
   refine Z2h ?_
   exact ⟨i+1,by omega,by omega,by rw [hst];exact Y8,.inl rfl⟩
  ·subst hc
   rw [if_neg (fun e=>by cases e.2)] at hst
   refine Z2h ?_
   exact ⟨i+1,by omega,by omega,by rw [hst];exact Y8,.inl rfl⟩
 have hend:q2j g free s g.length=q2j g free s i:=by
  rw [Bool.and_eq_false_iff,decide_eq_false_iff_not,decide_eq_false_iff_not] at hc
  rcases hc with h | h
  ·rw [show i=g.length by omega]
  ·have:=qdu h (g.length-i)
   rw [← this,show i+(g.length-i)=g.length by omega]
 rw [hend]
 clear hc hend
 refine Z11 ?_
 refine Z2q ?_
 refine qa rfl (fun hc=>?_) (fun hc=>?_)
 ·have hp:0<(q2j g free s i).2:=by simpa using hc
  rw [if_pos hp]
  refine Zkn ?_
  try dsimp only
  refine Z1d ?_
  refine q23 6 rfl ?_
  exact Zi1
 ·have hp:¬ 0<(q2j g free s i).2:=by simpa using hc
  rw [if_neg hp]
  refine Z45 ?_
  refine Z4c ?_
  refine Z1n ?_
  try dsimp only
  exact Ze6
theorem qvw (g:List Thing) (n:Int):(q68 g n).length≤256:=by
 rw [q68]
 split
 ·rename_i h
  simp only [q89,Bool.and_eq_true] at h
  exact Nat.le_trans (qa7 _ _) (q32 h.2).2
 ·decide
set_option maxHeartbeats 0 in
theorem qn6 (g:List Thing) (s:Spec) (H:qf) (hl:g.length≤1000000):ACT Tryz.prog KD 200 [.pl (g.map qw),.agg (q1i s)] H (Ret (.bool (qkv g s)) H):=by
 have hgl:=qvw g 0
 refine ACT.body (N:=16) [.tmp 4] Tryz.func200 rfl rfl rfl (Nat.le_of_ble_eq_true rfl) fun B hB=>?_
 refine Z2u ?_
 refine Z2x ?_
 refine Za0 ?_
 refine Z6v ?_
 refine Zjk ?_
 refine q9b 2 rfl Y1q (by decide) (fun _=>V2.call (qe3 _ _ _ (by omega)) rfl) ?_
 refine aqp 3 rfl Y1q (by decide) (fun G=>q1q rfl (lk rfl rfl) rfl rfl rfl) ?_
 refine q9b 4 rfl Y1q (by decide) (fun _=>V2.callT (qg8 g (q68 g 0) s _ hl (by omega)) rfl rfl) ?_
 refine aq0 5 rfl Y1q (by decide) (fun _=>qi (v:=.tup _) rfl) ?_
 refine aq0 6 rfl Y1q (by decide) (fun _=>q2f (v:=.pl _) rfl rfl) ?_
 refine aq0 7 rfl Y1q (by decide) (fun _=>q2f (v:=.bool _) rfl rfl) ?_
 refine aq0 8 rfl Y1q (by decide) (fun _=>q11 (v:=.pl _) rfl) ?_
 refine aq0 9 rfl Y1q (by decide) (fun _=>q11 (v:=.bool _) rfl) ?_
 refine Z1k ?_
 refine Z2n ?_
 exact Z1q
end Go.Av
