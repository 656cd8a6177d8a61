/- Parts of the proof: rules for an abstract memory, plain laws, and walks through the program. -/
import Derived.Test.YtpidemmdmmgalaaGreatDoorSeatP0
import Derived.Test.YtpidemmdmmgalaaGreatDoorProg
import Derived.KernelRfl
import Derived.Test.YtpidemmdmmgalaaGreatDoorSeatP1
import Derived.Test.YtpidemmdmmgalaaGreatDoorSeatP2
import Derived.Laws.StructEq
set_option maxRecDepth 10000
set_option linter.unusedVariables false
set_option linter.unusedSimpArgs false
namespace Go.Av
open Go.Proofs
instance ty1:TyI Tryz.prog 1 false 1:=⟨by kernel_rfl,by kernel_rfl⟩
instance ty2:TyI Tryz.prog 2 false 1:=⟨by kernel_rfl,by kernel_rfl⟩
instance by2:ByI Tryz.prog 2 8:=⟨by kernel_rfl⟩
instance ud2:UdI Tryz.prog 2 (.int .i64):=⟨by kernel_rfl⟩
instance zc2:ZcI Tryz.prog 2 [.int .i64 0]:=⟨.int .i64 0,by kernel_rfl,rfl,rfl⟩
instance ty3:TyI Tryz.prog 3 false 1:=⟨by kernel_rfl,by kernel_rfl⟩
instance by3:ByI Tryz.prog 3 8:=⟨by kernel_rfl⟩
instance ud3:UdI Tryz.prog 3 (.int .i64):=⟨by kernel_rfl⟩
instance zc3:ZcI Tryz.prog 3 [.int .i64 0]:=⟨.int .i64 0,by kernel_rfl,rfl,rfl⟩
instance ty4:TyI Tryz.prog 4 false 1:=⟨by kernel_rfl,by kernel_rfl⟩
instance by4:ByI Tryz.prog 4 1:=⟨by kernel_rfl⟩
instance ud4:UdI Tryz.prog 4 .bool:=⟨by kernel_rfl⟩
instance zc4:ZcI Tryz.prog 4 [.bool false]:=⟨.bool false,by kernel_rfl,rfl,rfl⟩
instance ty5:TyI Tryz.prog 5 false 1:=⟨by kernel_rfl,by kernel_rfl⟩
instance by5:ByI Tryz.prog 5 1:=⟨by kernel_rfl⟩
instance ud5:UdI Tryz.prog 5 (.int .u8):=⟨by kernel_rfl⟩
instance zc5:ZcI Tryz.prog 5 [.int .u8 0]:=⟨.int .u8 0,by kernel_rfl,rfl,rfl⟩
instance ty9:TyI Tryz.prog 9 false 1:=⟨by kernel_rfl,by kernel_rfl⟩
instance ud9:UdI Tryz.prog 9 .string:=⟨by kernel_rfl⟩
instance ni9:NiI Tryz.prog 9:=⟨.inr Y24⟩
instance ud21:UdI Tryz.prog 21 (.int .i32):=⟨by kernel_rfl⟩
instance ty23:TyI Tryz.prog 23 true 7:=⟨by kernel_rfl,by kernel_rfl⟩
instance q164:FldI Tryz.prog 23 0 0 3:=⟨by kernel_rfl⟩
instance q15x:FldI Tryz.prog 23 1 1 3:=⟨by kernel_rfl⟩
instance q158:FldI Tryz.prog 23 2 2 3:=⟨by kernel_rfl⟩
instance q16b:FldI Tryz.prog 23 3 3 9:=⟨by kernel_rfl⟩
instance q162:FldI Tryz.prog 23 4 4 4:=⟨by kernel_rfl⟩
instance q15l:FldI Tryz.prog 23 5 5 2:=⟨by kernel_rfl⟩
instance q15h:FldI Tryz.prog 23 6 6 3:=⟨by kernel_rfl⟩
instance st23:StI Tryz.prog 23 [(0,1),(1,1),(2,1),(3,1),(4,1),(5,1),(6,1)]:=⟨by kernel_rfl⟩
instance zc23:ZcI Tryz.prog 23 [.int .i64 0,.int .i64 0,.int .i64 0,.str ⟨#[]⟩,.bool false,.int .i64 0,.int .i64 0]:=⟨.agg #[.int .i64 0,.int .i64 0,.int .i64 0,.string ⟨#[]⟩,.bool false,.int .i64 0,.int .i64 0],by kernel_rfl,rfl,rfl⟩
instance ty24:TyI Tryz.prog 24 false 1:=⟨by kernel_rfl,by kernel_rfl⟩
instance by24:ByI Tryz.prog 24 24:=⟨by kernel_rfl⟩
instance sl24:SlI Tryz.prog 24 3:=⟨by kernel_rfl⟩
instance ni24:NiI Tryz.prog 24:=⟨.inl ⟨3,by kernel_rfl⟩⟩
instance zc24:ZcI Tryz.prog 24 [.nsl]:=⟨.slice none 0 0,by kernel_rfl,rfl,rfl⟩
instance ty26:TyI Tryz.prog 26 true 13:=⟨by kernel_rfl,by kernel_rfl⟩
instance q16f:FldI Tryz.prog 26 0 0 3:=⟨by kernel_rfl⟩
instance q15v:FldI Tryz.prog 26 1 1 23:=⟨by kernel_rfl⟩
instance q15t:FldI Tryz.prog 26 2 8 24:=⟨by kernel_rfl⟩
instance q15c:FldI Tryz.prog 26 3 9 3:=⟨by kernel_rfl⟩
instance q15w:FldI Tryz.prog 26 4 10 3:=⟨by kernel_rfl⟩
instance q15q:FldI Tryz.prog 26 5 11 2:=⟨by kernel_rfl⟩
instance q15r:FldI Tryz.prog 26 6 12 24:=⟨by kernel_rfl⟩
instance st26:StI Tryz.prog 26 [(0,1),(1,7),(8,1),(9,1),(10,1),(11,1),(12,1)]:=⟨by kernel_rfl⟩
instance zc26:ZcI Tryz.prog 26 [.int .i64 0,.int .i64 0,.int .i64 0,.int .i64 0,.str ⟨#[]⟩,.bool false,.int .i64 0,.int .i64 0,.nsl,.int .i64 0,.int .i64 0,.int .i64 0,.nsl]:=⟨.agg #[.int .i64 0,.int .i64 0,.int .i64 0,.int .i64 0,.string ⟨#[]⟩,.bool false,.int .i64 0,.int .i64 0,.slice none 0 0,.int .i64 0,.int .i64 0,.int .i64 0,.slice none 0 0],by kernel_rfl,rfl,rfl⟩
instance ty27:TyI Tryz.prog 27 false 1:=⟨by kernel_rfl,by kernel_rfl⟩
instance by27:ByI Tryz.prog 27 24:=⟨by kernel_rfl⟩
instance sl27:SlI Tryz.prog 27 5:=⟨by kernel_rfl⟩
instance ni27:NiI Tryz.prog 27:=⟨.inl ⟨5,by kernel_rfl⟩⟩
instance zc27:ZcI Tryz.prog 27 [.nsl]:=⟨.slice none 0 0,by kernel_rfl,rfl,rfl⟩
instance ty30:TyI Tryz.prog 30 false 1:=⟨by kernel_rfl,by kernel_rfl⟩
instance no30:NoI Tryz.prog 30:=⟨by kernel_rfl⟩
instance zc30:ZcI Tryz.prog 30 [.int .i64 0]:=⟨.int .i64 0,by kernel_rfl,rfl,rfl⟩
instance ty40:TyI Tryz.prog 40 false 1:=⟨by kernel_rfl,by kernel_rfl⟩
instance sl40:SlI Tryz.prog 40 74:=⟨by kernel_rfl⟩
instance ni40:NiI Tryz.prog 40:=⟨.inl ⟨74,by kernel_rfl⟩⟩
instance sl41:SlI Tryz.prog 41 26:=⟨by kernel_rfl⟩
instance ty42:TyI Tryz.prog 42 false 1:=⟨by kernel_rfl,by kernel_rfl⟩
instance sl42:SlI Tryz.prog 42 98:=⟨by kernel_rfl⟩
instance ni42:NiI Tryz.prog 42:=⟨.inl ⟨98,by kernel_rfl⟩⟩
instance ty43:TyI Tryz.prog 43 false 1:=⟨by kernel_rfl,by kernel_rfl⟩
instance sl43:SlI Tryz.prog 43 95:=⟨by kernel_rfl⟩
instance ni43:NiI Tryz.prog 43:=⟨.inl ⟨95,by kernel_rfl⟩⟩
instance ty45:TyI Tryz.prog 45 true 9:=⟨by kernel_rfl,by kernel_rfl⟩
instance q167:FldI Tryz.prog 45 0 0 40:=⟨by kernel_rfl⟩
instance q15f:FldI Tryz.prog 45 1 1 24:=⟨by kernel_rfl⟩
instance q157:FldI Tryz.prog 45 2 2 24:=⟨by kernel_rfl⟩
instance q15s:FldI Tryz.prog 45 3 3 2:=⟨by kernel_rfl⟩
instance q168:FldI Tryz.prog 45 4 4 42:=⟨by kernel_rfl⟩
instance q15o:FldI Tryz.prog 45 5 5 43:=⟨by kernel_rfl⟩
instance q154:FldI Tryz.prog 45 6 6 2:=⟨by kernel_rfl⟩
instance q15u:FldI Tryz.prog 45 7 7 3:=⟨by kernel_rfl⟩
instance q15k:FldI Tryz.prog 45 8 8 3:=⟨by kernel_rfl⟩
instance st45:StI Tryz.prog 45 [(0,1),(1,1),(2,1),(3,1),(4,1),(5,1),(6,1),(7,1),(8,1)]:=⟨by kernel_rfl⟩
instance zc45:ZcI Tryz.prog 45 [.nsl,.nsl,.nsl,.int .i64 0,.nsl,.nsl,.int .i64 0,.int .i64 0,.int .i64 0]:=⟨.agg #[.slice none 0 0,.slice none 0 0,.slice none 0 0,.int .i64 0,.slice none 0 0,.slice none 0 0,.int .i64 0,.int .i64 0,.int .i64 0],by kernel_rfl,rfl,rfl⟩
instance ty47:TyI Tryz.prog 47 true 13:=⟨by kernel_rfl,by kernel_rfl⟩
instance by47:ByI Tryz.prog 47 216:=⟨by kernel_rfl⟩
instance q156:FldI Tryz.prog 47 0 0 40:=⟨by kernel_rfl⟩
instance q169:FldI Tryz.prog 47 1 1 3:=⟨by kernel_rfl⟩
instance q155:FldI Tryz.prog 47 2 2 3:=⟨by kernel_rfl⟩
instance q15d:FldI Tryz.prog 47 3 3 27:=⟨by kernel_rfl⟩
instance q16d:FldI Tryz.prog 47 4 4 45:=⟨by kernel_rfl⟩
instance st47:StI Tryz.prog 47 [(0,1),(1,1),(2,1),(3,1),(4,9)]:=⟨by kernel_rfl⟩
instance zc47:ZcI Tryz.prog 47 [.nsl,.int .i64 0,.int .i64 0,.nsl,.nsl,.nsl,.nsl,.int .i64 0,.nsl,.nsl,.int .i64 0,.int .i64 0,.int .i64 0]:=⟨.agg #[.slice none 0 0,.int .i64 0,.int .i64 0,.slice none 0 0,.slice none 0 0,.slice none 0 0,.slice none 0 0,.int .i64 0,.slice none 0 0,.slice none 0 0,.int .i64 0,.int .i64 0,.int .i64 0],by kernel_rfl,rfl,rfl⟩
instance ud58:UdI Tryz.prog 58 (.int .u16):=⟨by kernel_rfl⟩
instance sl60:SlI Tryz.prog 60 47:=⟨by kernel_rfl⟩
instance ni60:NiI Tryz.prog 60:=⟨.inl ⟨47,by kernel_rfl⟩⟩
instance sl62:SlI Tryz.prog 62 27:=⟨by kernel_rfl⟩
instance ni62:NiI Tryz.prog 62:=⟨.inl ⟨27,by kernel_rfl⟩⟩
instance ty74:TyI Tryz.prog 74 true 3:=⟨by kernel_rfl,by kernel_rfl⟩
instance by74:ByI Tryz.prog 74 32:=⟨by kernel_rfl⟩
instance q15e:FldI Tryz.prog 74 0 0 3:=⟨by kernel_rfl⟩
instance q15g:FldI Tryz.prog 74 1 1 3:=⟨by kernel_rfl⟩
instance q159:FldI Tryz.prog 74 2 2 9:=⟨by kernel_rfl⟩
instance st74:StI Tryz.prog 74 [(0,1),(1,1),(2,1)]:=⟨by kernel_rfl⟩
instance zc74:ZcI Tryz.prog 74 [.int .i64 0,.int .i64 0,.str ⟨#[]⟩]:=⟨.agg #[.int .i64 0,.int .i64 0,.string ⟨#[]⟩],by kernel_rfl,rfl,rfl⟩
instance ty77:TyI Tryz.prog 77 false 1:=⟨by kernel_rfl,by kernel_rfl⟩
instance ud77:UdI Tryz.prog 77 (.int .u64):=⟨by kernel_rfl⟩
instance q15b:FldI Tryz.prog 84 0 0 27:=⟨by kernel_rfl⟩
instance q15n:FldI Tryz.prog 84 1 1 4:=⟨by kernel_rfl⟩
instance st84:StI Tryz.prog 84 [(0,1),(1,1)]:=⟨by kernel_rfl⟩
instance zc84:ZcI Tryz.prog 84 [.nsl,.bool false]:=⟨.agg #[.slice none 0 0,.bool false],by kernel_rfl,rfl,rfl⟩
instance ty95:TyI Tryz.prog 95 true 4:=⟨by kernel_rfl,by kernel_rfl⟩
instance by95:ByI Tryz.prog 95 48:=⟨by kernel_rfl⟩
instance q16c:FldI Tryz.prog 95 0 0 3:=⟨by kernel_rfl⟩
instance q165:FldI Tryz.prog 95 1 1 24:=⟨by kernel_rfl⟩
instance q163:FldI Tryz.prog 95 2 2 2:=⟨by kernel_rfl⟩
instance q166:FldI Tryz.prog 95 3 3 2:=⟨by kernel_rfl⟩
instance st95:StI Tryz.prog 95 [(0,1),(1,1),(2,1),(3,1)]:=⟨by kernel_rfl⟩
instance zc95:ZcI Tryz.prog 95 [.int .i64 0,.nsl,.int .i64 0,.int .i64 0]:=⟨.agg #[.int .i64 0,.slice none 0 0,.int .i64 0,.int .i64 0],by kernel_rfl,rfl,rfl⟩
instance ty98:TyI Tryz.prog 98 true 13:=⟨by kernel_rfl,by kernel_rfl⟩
instance by98:ByI Tryz.prog 98 128:=⟨by kernel_rfl⟩
instance q15m:FldI Tryz.prog 98 0 0 3:=⟨by kernel_rfl⟩
instance q15y:FldI Tryz.prog 98 1 1 23:=⟨by kernel_rfl⟩
instance q15i:FldI Tryz.prog 98 2 8 24:=⟨by kernel_rfl⟩
instance q15p:FldI Tryz.prog 98 3 9 3:=⟨by kernel_rfl⟩
instance q161:FldI Tryz.prog 98 4 10 2:=⟨by kernel_rfl⟩
instance q15z:FldI Tryz.prog 98 5 11 2:=⟨by kernel_rfl⟩
instance q16a:FldI Tryz.prog 98 6 12 2:=⟨by kernel_rfl⟩
instance st98:StI Tryz.prog 98 [(0,1),(1,7),(8,1),(9,1),(10,1),(11,1),(12,1)]:=⟨by kernel_rfl⟩
instance zc98:ZcI Tryz.prog 98 [.int .i64 0,.int .i64 0,.int .i64 0,.int .i64 0,.str ⟨#[]⟩,.bool false,.int .i64 0,.int .i64 0,.nsl,.int .i64 0,.int .i64 0,.int .i64 0,.int .i64 0]:=⟨.agg #[.int .i64 0,.int .i64 0,.int .i64 0,.int .i64 0,.string ⟨#[]⟩,.bool false,.int .i64 0,.int .i64 0,.slice none 0 0,.int .i64 0,.int .i64 0,.int .i64 0,.int .i64 0],by kernel_rfl,rfl,rfl⟩
instance q188:TyI Tryz.prog 122 false 1:=⟨by kernel_rfl,by kernel_rfl⟩
instance q17a:ZcI Tryz.prog 122 [.nfn]:=⟨.nilFunc,by kernel_rfl,rfl,rfl⟩
instance q17p:SlI Tryz.prog 127 129:=⟨by kernel_rfl⟩
instance q17q:NiI Tryz.prog 127:=⟨.inl ⟨129,by kernel_rfl⟩⟩
instance q180:TyI Tryz.prog 129 true 2:=⟨by kernel_rfl,by kernel_rfl⟩
instance q16y:ByI Tryz.prog 129 16:=⟨by kernel_rfl⟩
instance q18c:ArI Tryz.prog 129 2 3:=⟨by kernel_rfl⟩
instance q18v:ZcI Tryz.prog 129 [.int .i64 0,.int .i64 0]:=⟨.agg #[.int .i64 0,.int .i64 0],by kernel_rfl,rfl,rfl⟩
instance q199:UdI Tryz.prog 134 (.int .u64):=⟨by kernel_rfl⟩
instance q191:TyI Tryz.prog 153 false 1:=⟨by kernel_rfl,by kernel_rfl⟩
instance q18f:SlI Tryz.prog 153 4:=⟨by kernel_rfl⟩
instance q17h:ZcI Tryz.prog 153 [.nsl]:=⟨.slice none 0 0,by kernel_rfl,rfl,rfl⟩
instance q17w:TyI Tryz.prog 166 true 4:=⟨by kernel_rfl,by kernel_rfl⟩
instance q1a0:ArI Tryz.prog 166 4 77:=⟨by kernel_rfl⟩
instance q1ar:ZcI Tryz.prog 166 [.int .u64 0,.int .u64 0,.int .u64 0,.int .u64 0]:=⟨.agg #[.int .u64 0,.int .u64 0,.int .u64 0,.int .u64 0],by kernel_rfl,rfl,rfl⟩
instance q14g:FldI Tryz.prog 171 0 0 27:=⟨by kernel_rfl⟩
instance q19d:StI Tryz.prog 171 [(0,1)]:=⟨by kernel_rfl⟩
instance q18e:ZcI Tryz.prog 171 [.nsl]:=⟨.agg #[.slice none 0 0],by kernel_rfl,rfl,rfl⟩
instance q14b:FldI Tryz.prog 178 0 0 45:=⟨by kernel_rfl⟩
instance q184:StI Tryz.prog 178 [(0,9)]:=⟨by kernel_rfl⟩
instance q1ao:ZcI Tryz.prog 178 [.nsl,.nsl,.nsl,.int .i64 0,.nsl,.nsl,.int .i64 0,.int .i64 0,.int .i64 0]:=⟨.agg #[.slice none 0 0,.slice none 0 0,.slice none 0 0,.int .i64 0,.slice none 0 0,.slice none 0 0,.int .i64 0,.int .i64 0,.int .i64 0],by kernel_rfl,rfl,rfl⟩
instance q1ak:SlI Tryz.prog 223 226:=⟨by kernel_rfl⟩
instance q170:NiI Tryz.prog 223:=⟨.inl ⟨226,by kernel_rfl⟩⟩
instance q19a:TyI Tryz.prog 226 true 8:=⟨by kernel_rfl,by kernel_rfl⟩
instance q1ab:ByI Tryz.prog 226 72:=⟨by kernel_rfl⟩
instance q145:FldI Tryz.prog 226 0 0 3:=⟨by kernel_rfl⟩
instance q14m:FldI Tryz.prog 226 1 1 23:=⟨by kernel_rfl⟩
instance q181:StI Tryz.prog 226 [(0,1),(1,7)]:=⟨by kernel_rfl⟩
instance q17m:ZcI Tryz.prog 226 [.int .i64 0,.int .i64 0,.int .i64 0,.int .i64 0,.str ⟨#[]⟩,.bool false,.int .i64 0,.int .i64 0]:=⟨.agg #[.int .i64 0,.int .i64 0,.int .i64 0,.int .i64 0,.string ⟨#[]⟩,.bool false,.int .i64 0,.int .i64 0],by kernel_rfl,rfl,rfl⟩
instance q179:SlI Tryz.prog 277 2:=⟨by kernel_rfl⟩
instance q175:NiI Tryz.prog 277:=⟨.inl ⟨2,by kernel_rfl⟩⟩
instance q17o:TyI Tryz.prog 281 false 1:=⟨by kernel_rfl,by kernel_rfl⟩
instance q16r:SlI Tryz.prog 281 24:=⟨by kernel_rfl⟩
instance q14p:FldI Tryz.prog 283 0 0 40:=⟨by kernel_rfl⟩
instance q148:FldI Tryz.prog 283 1 1 153:=⟨by kernel_rfl⟩
instance q152:FldI Tryz.prog 283 2 2 281:=⟨by kernel_rfl⟩
instance q14e:FldI Tryz.prog 283 3 3 23:=⟨by kernel_rfl⟩
instance q19t:StI Tryz.prog 283 [(0,1),(1,1),(2,1),(3,7)]:=⟨by kernel_rfl⟩
instance q16x:ZcI Tryz.prog 283 [.nsl,.nsl,.nsl,.int .i64 0,.int .i64 0,.int .i64 0,.str ⟨#[]⟩,.bool false,.int .i64 0,.int .i64 0]:=⟨.agg #[.slice none 0 0,.slice none 0 0,.slice none 0 0,.int .i64 0,.int .i64 0,.int .i64 0,.string ⟨#[]⟩,.bool false,.int .i64 0,.int .i64 0],by kernel_rfl,rfl,rfl⟩
instance q173:ArI Tryz.prog 290 64 5:=⟨by kernel_rfl⟩
instance fn8:FnI Tryz.prog 8:=⟨by kernel_rfl⟩
instance fn9:FnI Tryz.prog 9:=⟨by kernel_rfl⟩
instance fn10:FnI Tryz.prog 10:=⟨by kernel_rfl⟩
instance fn12:FnI Tryz.prog 12:=⟨by kernel_rfl⟩
instance fn15:FnI Tryz.prog 15:=⟨by kernel_rfl⟩
instance fn17:FnI Tryz.prog 17:=⟨by kernel_rfl⟩
instance fn18:FnI Tryz.prog 18:=⟨by kernel_rfl⟩
instance fn20:FnI Tryz.prog 20:=⟨by kernel_rfl⟩
instance fn21:FnI Tryz.prog 21:=⟨by kernel_rfl⟩
instance fn22:FnI Tryz.prog 22:=⟨by kernel_rfl⟩
instance fn23:FnI Tryz.prog 23:=⟨by kernel_rfl⟩
instance fn24:FnI Tryz.prog 24:=⟨by kernel_rfl⟩
instance fn25:FnI Tryz.prog 25:=⟨by kernel_rfl⟩
instance fn26:FnI Tryz.prog 26:=⟨by kernel_rfl⟩
instance fn27:FnI Tryz.prog 27:=⟨by kernel_rfl⟩
instance fn28:FnI Tryz.prog 28:=⟨by kernel_rfl⟩
instance fn29:FnI Tryz.prog 29:=⟨by kernel_rfl⟩
instance fn30:FnI Tryz.prog 30:=⟨by kernel_rfl⟩
instance fn31:FnI Tryz.prog 31:=⟨by kernel_rfl⟩
instance fn36:FnI Tryz.prog 36:=⟨by kernel_rfl⟩
instance fn37:FnI Tryz.prog 37:=⟨by kernel_rfl⟩
instance fn38:FnI Tryz.prog 38:=⟨by kernel_rfl⟩
instance fn39:FnI Tryz.prog 39:=⟨by kernel_rfl⟩
instance fn40:FnI Tryz.prog 40:=⟨by kernel_rfl⟩
instance fn43:FnI Tryz.prog 43:=⟨by kernel_rfl⟩
instance fn44:FnI Tryz.prog 44:=⟨by kernel_rfl⟩
instance fn45:FnI Tryz.prog 45:=⟨by kernel_rfl⟩
instance fn46:FnI Tryz.prog 46:=⟨by kernel_rfl⟩
instance fn47:FnI Tryz.prog 47:=⟨by kernel_rfl⟩
instance fn48:FnI Tryz.prog 48:=⟨by kernel_rfl⟩
instance fn49:FnI Tryz.prog 49:=⟨by kernel_rfl⟩
instance fn50:FnI Tryz.prog 50:=⟨by kernel_rfl⟩
instance fn51:FnI Tryz.prog 51:=⟨by kernel_rfl⟩
instance fn52:FnI Tryz.prog 52:=⟨by kernel_rfl⟩
instance fn55:FnI Tryz.prog 55:=⟨by kernel_rfl⟩
instance fn56:FnI Tryz.prog 56:=⟨by kernel_rfl⟩
instance fn57:FnI Tryz.prog 57:=⟨by kernel_rfl⟩
instance fn58:FnI Tryz.prog 58:=⟨by kernel_rfl⟩
instance fn59:FnI Tryz.prog 59:=⟨by kernel_rfl⟩
instance fn60:FnI Tryz.prog 60:=⟨by kernel_rfl⟩
instance fn61:FnI Tryz.prog 61:=⟨by kernel_rfl⟩
instance fn62:FnI Tryz.prog 62:=⟨by kernel_rfl⟩
instance fn63:FnI Tryz.prog 63:=⟨by kernel_rfl⟩
instance fn64:FnI Tryz.prog 64:=⟨by kernel_rfl⟩
instance fn65:FnI Tryz.prog 65:=⟨by kernel_rfl⟩
instance fn66:FnI Tryz.prog 66:=⟨by kernel_rfl⟩
instance fn67:FnI Tryz.prog 67:=⟨by kernel_rfl⟩
instance fn68:FnI Tryz.prog 68:=⟨by kernel_rfl⟩
instance fn69:FnI Tryz.prog 69:=⟨by kernel_rfl⟩
instance fn70:FnI Tryz.prog 70:=⟨by kernel_rfl⟩
instance fn71:FnI Tryz.prog 71:=⟨by kernel_rfl⟩
instance fn72:FnI Tryz.prog 72:=⟨by kernel_rfl⟩
instance fn73:FnI Tryz.prog 73:=⟨by kernel_rfl⟩
instance fn74:FnI Tryz.prog 74:=⟨by kernel_rfl⟩
instance fn75:FnI Tryz.prog 75:=⟨by kernel_rfl⟩
instance fn76:FnI Tryz.prog 76:=⟨by kernel_rfl⟩
instance fn77:FnI Tryz.prog 77:=⟨by kernel_rfl⟩
instance fn78:FnI Tryz.prog 78:=⟨by kernel_rfl⟩
instance fn83:FnI Tryz.prog 83:=⟨by kernel_rfl⟩
instance fn84:FnI Tryz.prog 84:=⟨by kernel_rfl⟩
instance fn85:FnI Tryz.prog 85:=⟨by kernel_rfl⟩
instance fn86:FnI Tryz.prog 86:=⟨by kernel_rfl⟩
instance fn89:FnI Tryz.prog 89:=⟨by kernel_rfl⟩
instance fn90:FnI Tryz.prog 90:=⟨by kernel_rfl⟩
instance fn91:FnI Tryz.prog 91:=⟨by kernel_rfl⟩
instance fn92:FnI Tryz.prog 92:=⟨by kernel_rfl⟩
instance fn93:FnI Tryz.prog 93:=⟨by kernel_rfl⟩
instance fn94:FnI Tryz.prog 94:=⟨by kernel_rfl⟩
instance fn95:FnI Tryz.prog 95:=⟨by kernel_rfl⟩
instance fn96:FnI Tryz.prog 96:=⟨by kernel_rfl⟩
instance q19y:FnI Tryz.prog 103:=⟨by kernel_rfl⟩
instance q19o:FnI Tryz.prog 104:=⟨by kernel_rfl⟩
instance q16m:FnI Tryz.prog 105:=⟨by kernel_rfl⟩
instance q19c:FnI Tryz.prog 106:=⟨by kernel_rfl⟩
instance q1as:FnI Tryz.prog 107:=⟨by kernel_rfl⟩
instance q19q:FnI Tryz.prog 108:=⟨by kernel_rfl⟩
instance q17j:FnI Tryz.prog 109:=⟨by kernel_rfl⟩
instance q18m:FnI Tryz.prog 110:=⟨by kernel_rfl⟩
instance q19g:FnI Tryz.prog 111:=⟨by kernel_rfl⟩
instance q18p:FnI Tryz.prog 112:=⟨by kernel_rfl⟩
instance q1a6:FnI Tryz.prog 113:=⟨by kernel_rfl⟩
instance q19z:FnI Tryz.prog 114:=⟨by kernel_rfl⟩
instance q18s:FnI Tryz.prog 115:=⟨by kernel_rfl⟩
instance q1a5:FnI Tryz.prog 116:=⟨by kernel_rfl⟩
instance q187:FnI Tryz.prog 117:=⟨by kernel_rfl⟩
instance q1a2:FnI Tryz.prog 118:=⟨by kernel_rfl⟩
instance q17b:FnI Tryz.prog 119:=⟨by kernel_rfl⟩
instance q1ap:FnI Tryz.prog 120:=⟨by kernel_rfl⟩
instance q16u:FnI Tryz.prog 122:=⟨by kernel_rfl⟩
instance q1ag:FnI Tryz.prog 123:=⟨by kernel_rfl⟩
instance q1a4:FnI Tryz.prog 124:=⟨by kernel_rfl⟩
instance q176:FnI Tryz.prog 125:=⟨by kernel_rfl⟩
instance q1ae:FnI Tryz.prog 126:=⟨by kernel_rfl⟩
instance q18g:FnI Tryz.prog 127:=⟨by kernel_rfl⟩
instance q18r:FnI Tryz.prog 128:=⟨by kernel_rfl⟩
instance q1an:FnI Tryz.prog 129:=⟨by kernel_rfl⟩
instance q16z:FnI Tryz.prog 130:=⟨by kernel_rfl⟩
instance q178:FnI Tryz.prog 131:=⟨by kernel_rfl⟩
instance q174:FnI Tryz.prog 132:=⟨by kernel_rfl⟩
instance q19f:FnI Tryz.prog 133:=⟨by kernel_rfl⟩
instance q18t:FnI Tryz.prog 134:=⟨by kernel_rfl⟩
instance q18l:FnI Tryz.prog 144:=⟨by kernel_rfl⟩
instance q16g:FnI Tryz.prog 145:=⟨by kernel_rfl⟩
instance q18y:FnI Tryz.prog 146:=⟨by kernel_rfl⟩
instance q18w:FnI Tryz.prog 147:=⟨by kernel_rfl⟩
instance q19b:FnI Tryz.prog 148:=⟨by kernel_rfl⟩
instance q1aj:FnI Tryz.prog 149:=⟨by kernel_rfl⟩
instance q18i:FnI Tryz.prog 150:=⟨by kernel_rfl⟩
instance q1ad:FnI Tryz.prog 151:=⟨by kernel_rfl⟩
instance q18h:FnI Tryz.prog 152:=⟨by kernel_rfl⟩
instance q16p:FnI Tryz.prog 153:=⟨by kernel_rfl⟩
instance q17t:FnI Tryz.prog 154:=⟨by kernel_rfl⟩
instance q17l:FnI Tryz.prog 155:=⟨by kernel_rfl⟩
instance q1aa:FnI Tryz.prog 156:=⟨by kernel_rfl⟩
instance q185:FnI Tryz.prog 157:=⟨by kernel_rfl⟩
instance q16n:FnI Tryz.prog 158:=⟨by kernel_rfl⟩
instance q16q:FnI Tryz.prog 159:=⟨by kernel_rfl⟩
instance q17k:FnI Tryz.prog 160:=⟨by kernel_rfl⟩
instance q19i:FnI Tryz.prog 161:=⟨by kernel_rfl⟩
instance q1au:FnI Tryz.prog 162:=⟨by kernel_rfl⟩
instance q17z:FnI Tryz.prog 163:=⟨by kernel_rfl⟩
instance q171:FnI Tryz.prog 164:=⟨by kernel_rfl⟩
instance q18j:FnI Tryz.prog 165:=⟨by kernel_rfl⟩
instance q16k:FnI Tryz.prog 166:=⟨by kernel_rfl⟩
instance q19u:FnI Tryz.prog 167:=⟨by kernel_rfl⟩
instance q19s:FnI Tryz.prog 168:=⟨by kernel_rfl⟩
instance q182:FnI Tryz.prog 169:=⟨by kernel_rfl⟩
instance q19j:FnI Tryz.prog 170:=⟨by kernel_rfl⟩
instance q18u:FnI Tryz.prog 171:=⟨by kernel_rfl⟩
instance q17i:FnI Tryz.prog 186:=⟨by kernel_rfl⟩
instance q192:FnI Tryz.prog 187:=⟨by kernel_rfl⟩
instance q19k:FnI Tryz.prog 188:=⟨by kernel_rfl⟩
instance q19n:FnI Tryz.prog 189:=⟨by kernel_rfl⟩
instance q16v:FnI Tryz.prog 190:=⟨by kernel_rfl⟩
instance q18b:FnI Tryz.prog 191:=⟨by kernel_rfl⟩
instance q16o:FnI Tryz.prog 192:=⟨by kernel_rfl⟩
instance q18z:FnI Tryz.prog 193:=⟨by kernel_rfl⟩
instance q1at:FnI Tryz.prog 194:=⟨by kernel_rfl⟩
instance q183:FnI Tryz.prog 195:=⟨by kernel_rfl⟩
instance q19x:FnI Tryz.prog 196:=⟨by kernel_rfl⟩
instance q16s:FnI Tryz.prog 197:=⟨by kernel_rfl⟩
instance q198:FnI Tryz.prog 198:=⟨by kernel_rfl⟩
instance q18q:FnI Tryz.prog 199:=⟨by kernel_rfl⟩
instance q19h:FnI Tryz.prog 200:=⟨by kernel_rfl⟩
instance q1a8:FnI Tryz.prog 201:=⟨by kernel_rfl⟩
instance q16w:FnI Tryz.prog 202:=⟨by kernel_rfl⟩
instance q1ah:FnI Tryz.prog 203:=⟨by kernel_rfl⟩
instance q17s:FnI Tryz.prog 204:=⟨by kernel_rfl⟩
instance q17y:FnI Tryz.prog 205:=⟨by kernel_rfl⟩
instance q193:FnI Tryz.prog 206:=⟨by kernel_rfl⟩
instance q196:FnI Tryz.prog 218:=⟨by kernel_rfl⟩
instance q1a3:FnI Tryz.prog 219:=⟨by kernel_rfl⟩
instance q186:FnI Tryz.prog 220:=⟨by kernel_rfl⟩
instance q18a:FnI Tryz.prog 223:=⟨by kernel_rfl⟩
instance q1am:FnI Tryz.prog 224:=⟨by kernel_rfl⟩
instance q16j:FnI Tryz.prog 225:=⟨by kernel_rfl⟩
instance q18d:FnI Tryz.prog 226:=⟨by kernel_rfl⟩
instance q1a7:FnI Tryz.prog 227:=⟨by kernel_rfl⟩
instance q177:FnI Tryz.prog 228:=⟨by kernel_rfl⟩
instance q18n:FnI Tryz.prog 229:=⟨by kernel_rfl⟩
instance q17d:FnI Tryz.prog 230:=⟨by kernel_rfl⟩
instance q1a1:FnI Tryz.prog 231:=⟨by kernel_rfl⟩
instance q16h:FnI Tryz.prog 232:=⟨by kernel_rfl⟩
instance q17r:FnI Tryz.prog 233:=⟨by kernel_rfl⟩
instance q195:FnI Tryz.prog 234:=⟨by kernel_rfl⟩
instance q190:FnI Tryz.prog 235:=⟨by kernel_rfl⟩
instance q19r:FnI Tryz.prog 236:=⟨by kernel_rfl⟩
instance q1al:FnI Tryz.prog 237:=⟨by kernel_rfl⟩
instance q197:FnI Tryz.prog 238:=⟨by kernel_rfl⟩
instance q189:FnI Tryz.prog 239:=⟨by kernel_rfl⟩
instance q17e:FnI Tryz.prog 245:=⟨by kernel_rfl⟩
instance q19e:FnI Tryz.prog 246:=⟨by kernel_rfl⟩
instance q17u:FnI Tryz.prog 247:=⟨by kernel_rfl⟩
instance q18o:FnI Tryz.prog 248:=⟨by kernel_rfl⟩
instance q18k:FnI Tryz.prog 249:=⟨by kernel_rfl⟩
instance q17g:FnI Tryz.prog 250:=⟨by kernel_rfl⟩
instance q17x:FnI Tryz.prog 251:=⟨by kernel_rfl⟩
instance q19v:FnI Tryz.prog 252:=⟨by kernel_rfl⟩
instance q194:FnI Tryz.prog 253:=⟨by kernel_rfl⟩
instance q16i:FnI Tryz.prog 254:=⟨by kernel_rfl⟩
instance q16l:FnI Tryz.prog 258:=⟨by kernel_rfl⟩
instance q17c:FnI Tryz.prog 259:=⟨by kernel_rfl⟩
instance q18x:FnI Tryz.prog 260:=⟨by kernel_rfl⟩
instance q172:FnI Tryz.prog 261:=⟨by kernel_rfl⟩
instance q1ai:FnI Tryz.prog 262:=⟨by kernel_rfl⟩
instance q19m:FnI Tryz.prog 263:=⟨by kernel_rfl⟩
instance q16t:FnI Tryz.prog 264:=⟨by kernel_rfl⟩
instance q17n:FnI Tryz.prog 265:=⟨by kernel_rfl⟩
instance q19l:FnI Tryz.prog 266:=⟨by kernel_rfl⟩
instance q1a9:FnI Tryz.prog 268:=⟨by kernel_rfl⟩
instance q19p:FnI Tryz.prog 271:=⟨by kernel_rfl⟩
instance q17f:FnI Tryz.prog 273:=⟨by kernel_rfl⟩
theorem mixed:Tryz.prog.follows .mixedOrders=true:=by kernel_rfl
abbrev lets:ByteArray:=⟨#[97,98,99,100,101,102,103,104,105,106,107,108,109,110,111,112,113,114,115,116,117,118,119,120,121,122,48,49,50,51,52,53,54,55,56,57]⟩
theorem qf5 (s:ByteArray) (c:Int) (H:qf):AC Tryz.prog 245 [.str s,.int .u8 c] H (Ret (.int .i64 (Lib.indexByte s.data.toList c.toNat.toUInt8)) H):=by
 refine AC.body (N:=8) [.tmp 4] Tryz.func245 rfl rfl rfl (Nat.le_of_ble_eq_true rfl) fun B hB=>?_
 refine Z5 ?_
 refine Z7 ?_
 refine Z8 ?_
 refine ao1 (by decide) (qgj Tryz.func257 Y24 Y24 Y24 Y24 rfl rfl) ?_
 exact Zc
theorem q7d (s:ByteArray) (c:Int) (H:qf):AC Tryz.prog 219 [.str s,.int .u8 c] H (Ret (.int .i64 (Lib.indexByte s.data.toList c.toNat.toUInt8)) H):=by
 refine AC.body (N:=8) [.tmp 4] Tryz.func219 rfl rfl rfl (Nat.le_of_ble_eq_true rfl) fun B hB=>?_
 refine Z5 ?_
 refine Z7 ?_
 refine Z8 ?_
 refine q12 (qf5 _ _ _) rfl (by decide) ?_
 exact Zc
theorem qgg (c:Int) (H:qf):AC Tryz.prog 220 [.int .i32 c] H (Ret (.bool (Utf8.valid c)) H):=by
 refine AC.body (N:=17) [.tmp 2] Tryz.func220 rfl rfl rfl (Nat.le_of_ble_eq_true rfl) fun B hB=>?_
 refine Zf ?_
 refine qn 3 (.bool (decide (0≤c)&&decide (c<55296))) ?_ ?_
 ·refine Z8 ?_
  refine Zi ?_
  refine qb rfl rfl (fun hg2=>?_) (fun hg2=>?_)
  ·refine Zl ?_
   refine Zn ?_
   exact Zo
  ·refine Zt ?_
   exact Zo
 refine Z1 ?_
 refine qa rfl (fun hc=>?_) (fun hc=>?_)
 ·refine Zf ?_
  rw [show Utf8.valid c=true by simp [Utf8.valid];simp at hc;omega]
  exact Zb
 ·refine Z1 ?_
  refine qn 10 (.bool (decide (57343<c)&&decide (c≤1114111))) ?_ ?_
  ·refine Zw ?_
   refine qb rfl rfl (fun hg2=>?_) (fun hg2=>?_)
   ·refine Zj ?_
    refine Zy ?_
    exact Zo
   ·refine Zt ?_
    exact Zo
  refine Z1 ?_
  refine qa rfl (fun hc=>?_) (fun hc=>?_)
  ·refine Zf ?_
   rw [show Utf8.valid c=true by simp [Utf8.valid];simp at hc;omega]
   exact Zb
  ·refine Zf ?_
   rw [show Utf8.valid c=false by simp [Utf8.valid];simp at *;omega]
   exact Zb
theorem qpm:∀ i:Nat,i<36→(lets.get! i).toNat<128:=by decide +kernel
theorem qys:∀ i:Nat,i<36→lets[i]?=some (lets.get! i):=by decide +kernel
theorem qfn:lets.size=36:=by decide +kernel
def ixl (c:Int):Int:=if c<128 then Lib.indexByte lets.data.toList c.toNat.toUInt8 else -1
theorem q13l {c:Int} (h:0≤c):decide (0≤ixl c)=qj1 c:=by
 unfold ixl
 by_cases h1:c<128
 ·rw [if_pos h1]
  obtain ⟨n,rfl⟩:∃ n:Nat,c=n:=⟨c.toNat,by omega⟩
  have:∀ n:Nat,n<128→decide (0≤Lib.indexByte lets.data.toList ((n:Int).toNat.toUInt8))=qj1 n:=by decide +kernel
  exact this n (by omega)
 ·rw [if_neg h1]
  simp [qj1]
  omega
theorem qgb {l:List UInt8} {c:UInt8} (h:c∉l):Lib.indexByte l c = -1:=by
 induction l with
 | nil=>rfl
 | cons b l ih =>
  simp only [List.mem_cons,not_or] at h
  unfold Lib.indexByte
  rw [ih h.2,if_neg (by simpa using fun e=>h.1 e.symm)]
  rfl
theorem qv9 {b:UInt8} (h:128≤b.toNat) (l h':Nat):Lib.indexByte (lets.extract l h').data.toList b = -1:=by
 refine qgb fun hm=>?_
 have hm2:b∈lets.data.toList:=by
  rw [ByteArray.data_extract] at hm
  rw [Array.toList_extract,List.extract_eq_take_drop] at hm
  exact List.mem_of_mem_drop (List.mem_of_mem_take hm)
 have:∀ x∈lets.data.toList,x.toNat<128:=by decide +kernel
 have:=this b hm2
 omega
set_option maxHeartbeats 0 in
theorem qbu (c:Int) (hc0:0≤c) (hc1:c≤1114111) (H:qf):AC Tryz.prog 187 [.str lets,.int .i32 c] H (Ret (.int .i64 (ixl c)) H):=by
 refine AC.body (N:=187) [.tmp 4] Tryz.func187 rfl rfl rfl (Nat.le_of_ble_eq_true rfl) fun B hB=>?_
 refine Zz ?_
 refine qn 160 (.bool (decide (c<128))) ?_ ?_
 ·refine Z8 ?_
  refine Zi ?_
  refine qb rfl rfl (fun hg2=>?_) (fun hg2=>?_)
  ·refine Zl ?_
   refine Zn ?_
   exact Z10
  ·refine Zt ?_
   exact Zo
 refine Z1 ?_
 refine qa rfl (fun hc=>?_) (fun hc=>?_)
 ·simp at hc
  refine Z7 ?_
  refine Z8 ?_
  refine ao1 (by decide) (qp rfl (show IntKind.u8.wrap c=c by simp [IntKind.wrap,IntKind.signed,IntKind.bits];omega)) ?_
  refine q12 (q7d _ _ _) rfl (by decide) ?_
  refine Z4 ?_
  try dsimp only
  refine Z1 ?_
  rw [show Lib.indexByte lets.data.toList c.toNat.toUInt8=ixl c by rw [ixl,if_pos hc]]
  exact Zb
 have hc128:128≤c:=by simp at hc;omega
 rw [show ixl c = -1 by rw [ixl,if_neg (by omega)]]
 refine Z11 ?_
 refine Z13 ?_
 refine qa rfl (fun hc=>?_) (fun hc=>?_)
 ·refine qau ?_
  refine qeq (s:=lets) rfl (by decide) (by decide) (by decide) (by decide) (by decide) (by decide) (by decide) (fun _=>True) (fun _=>[]) trivial Sub.nil ?_ ?_
  ·intro pos r B' hp _ hB'
   rw [qfn] at hp
   have hlow:=qpm pos hp
   rw [qgm lets pos hlow]
   refine Z2 ?_
   refine Z14 ?_
   refine Z14 ?_
   refine Z15 ?_
   try dsimp only
   refine Z17 ?_
   refine qa rfl (fun hc=>?_) (fun hc=>?_)
   ·simp at hc;omega
   ·refine Z1 ?_
    exact ⟨trivial,Y8,rfl⟩
  ·intro pos r hp _
   exact Z18
 ·refine Z11 ?_
  refine q12 (qgg _ _) rfl (by decide) ?_
  refine Z19 ?_
  refine Ze ?_
  refine qa rfl (fun hc=>?_) (fun hc=>?_)
  ·exact Z18
  ·have hv:Utf8.valid c=true:=by simpa using hc
   obtain ⟨h2,h4,hb⟩:=qny hc128 hv
   obtain ⟨m,hm⟩:∃ m,(Utf8.encode c).data.toList.length=m+1:=⟨_,(Nat.succ_pred (by omega:(Utf8.encode c).data.toList.length≠0)).symm⟩
   have hsz:(Utf8.encode c).size=m+1:=by show (Utf8.encode c).data.size=m+1;rw [← Array.length_toList,hm]
   obtain ⟨bl,hbl,hbm⟩:∃ bl,(Utf8.encode c)[m]?=some bl∧bl∈(Utf8.encode c).data.toList:=by
    have hlt:m<(Utf8.encode c).size:=by omega
    refine ⟨(Utf8.encode c)[m],getElem?_pos (Utf8.encode c) m hlt,?_⟩
    rw [ByteArray.getElem_eq_getElem_data]
    exact Array.getElem_mem_toList _
   have hb128:=hb bl hbm
   have hlow:=qpm m (by omega)
   have hlm:=qys m (by omega)
   refine Z11 ?_
   refine ao1 (by decide) (qwz rfl) ?_
   refine Z1a ?_
   refine qe ?_
   refine Z7 ?_
   refine Z1b ?_
   refine ao1 (by decide) (q3e (r:=(m:Int)) rfl rfl (by rw [hsz,show ((m+1:Nat):Int)-1=(m:Int) by omega];exact qd (by omega) (by omega))) ?_
   refine Z4 ?_
   refine Z1c ?_
   refine Z1e ?_
   refine qm (G:=Unit) (fun _=>True) (fun _=>[(0,.str lets),(7,.str (Utf8.encode c)),(8,.int .i64 (m:Int)),(9,.int .i64 (m:Int))]) (fun _=>H++[]) (fun _=>0) () trivial Y8 (Fit.refl _ _) ?_
   rintro _ _
   refine Z11 ?_
   refine Z6 ?_
   refine Z1b ?_
   refine Z1f ?_
   refine qa rfl (fun hc=>?_) (fun hc=>?_)
   ·refine Z1h ?_
    refine Z1i ?_
    refine Z1j ?_
    refine aq0 2 rfl Y1v (by decide) (fun _=>qcj rfl rfl (by omega) hlm) ?_
    refine aq0 3 rfl Y1v (by decide) (fun _=>qk (v:=.str _) rfl) ?_
    refine Z1k ?_
    refine aq0 5 rfl Y1v (by decide) (fun _=>qcj rfl rfl (by omega) hbl) ?_
    refine aq0 6 rfl Y1v (by decide) (fun _=>qyn rfl rfl) ?_
    refine Z1m ?_
    refine qa rfl (fun hc=>?_) (fun hc=>?_)
    ·refine Z1h ?_
     refine Z1i ?_
     refine Z1j ?_
     refine aq0 2 rfl Y1v (by decide) (fun _=>q20 rfl rfl (qd (by omega) (by omega))) ?_
     refine aq0 3 rfl Y1v (by decide) (fun _=>qrm (l:=m+1) rfl (.some rfl rfl) .none (by rw [qfn];omega) (Nat.le_refl _)) ?_
     refine aq0 4 rfl Y1v (by decide) (fun _=>qk (v:=.str _) rfl) ?_
     refine Z1n ?_
     refine aq0 6 rfl Y1v (by decide) (fun _=>qcj rfl rfl (by omega) hbl) ?_
     refine q8b 7 rfl Y1v (by decide) (fun _=>V2.call (q7d (lets.extract (m+1) lets.size) (bl.toNat:Int) _) rfl) ?_
     refine Z1o ?_
     refine Z1l ?_
     rw [show ((bl.toNat:Int).toNat.toUInt8)=bl by simp,qv9 hb128]
     refine Z11 ?_
     refine Z1f ?_
     refine qa rfl (fun hc=>?_) (fun hc=>?_)
     ·exact Z18
     ·simp at hc
    ·simp at hc
     omega
   ·simp [qfn] at hc
    omega
theorem q9i (c:Int) (h0:0≤c) (h1:c≤1114111) (H:qf):AC Tryz.prog 146 [.str lets,.int .i32 c] H (Ret (.bool (qj1 c)) H):=by
 refine AC.body (N:=9) [.tmp 4] Tryz.func146 rfl rfl rfl (Nat.le_of_ble_eq_true rfl) fun B hB=>?_
 refine Z1q ?_
 refine Z7 ?_
 refine Z8 ?_
 refine q12 (qbu _ Y23 Y23 _) rfl (by decide) ?_
 refine Z1r ?_
 refine Ze ?_
 rw [← q13l h0]
 exact Zb
theorem qmb (c:Int) (h0:0≤c) (h1:c≤1114111) (H:qf):AC Tryz.prog 145 [.int .i32 c] H (Ret (.bool (!qj1 c)) H):=by
 refine AC.body (N:=6) [.tmp 2] Tryz.func145 rfl rfl rfl (Nat.le_of_ble_eq_true rfl) fun B hB=>?_
 refine Z1q ?_
 refine Z11 ?_
 refine q12 (q9i _ Y23 Y23 _) rfl (by decide) ?_
 refine Z19 ?_
 exact Z1s
theorem q11f {s:ByteArray} {k:Nat} (h:k<s.size):∃ b:UInt8,s[k]?=some b∧s.data.toList[k]?=some b∧s.get! k=b:=by
 refine ⟨s[k],getElem?_pos s k h,?_,?_⟩
 ·rw [Array.getElem?_toList];exact getElem?_pos s.data k h
 ·show s.get! k=_
  simp [ByteArray.get!,getElem!_pos,h]
  rfl
theorem q13y {s:ByteArray} {k:Nat} {b:UInt8} (h:s.get! k=b):qj1 ((Utf8.decode s k).1:Int)=qm4 b∧(Utf8.decode s k).1≤1114111∧(qm4 b=true→(Utf8.decode s k).2=1):=by
 by_cases hb:b.toNat<128
 ·have:=qgm s k (by rw [h];exact hb)
  rw [this,h]
  exact ⟨rfl,by simp only;omega,fun _=>rfl⟩
 ·have:=qm7 s k (by rw [h];omega)
  have hn:qm4 b=false:=by simp [qm4,qj1];omega
  refine ⟨?_,this.2,fun h=>by rw [hn] at h;cases h⟩
  rw [hn]
  simp [qj1]
  omega
theorem qc0 (s:ByteArray) (H:qf):AC Tryz.prog 218 [.str s,.fn (.func 145) [] [],.bool true] H (Ret (.int .i64 (ixf (fun b=>!qm4 b) s.data.toList)) H):=by
 refine AC.body (N:=21) [.tmp 6] Tryz.func218 rfl rfl rfl (Nat.le_of_ble_eq_true rfl) fun B hB=>?_
 refine Z5 ?_
 refine q61 ?_
 refine qau ?_
 refine qeq (s:=s) rfl (by decide) (by decide) (by decide) (by decide) (by decide) (by decide) (by decide) (fun k=>k≤s.size∧∀ b∈s.data.toList.take k,(!qm4 b)=false) (fun _=>[(1,.fn (.func 145) [] []),(2,.bool true)]) ⟨Nat.zero_le _,by simp⟩ Y8 ?_ ?_
 ·rintro k r B' hp ⟨hk,hno⟩ hB'
  obtain ⟨b,h1,h2,h3⟩:=q11f hp
  obtain ⟨d1,d2,d3⟩:=q13y h3
  generalize Utf8.decode s k=q at d1 d2 d3
  refine Z2 ?_
  refine Z14 ?_
  refine Z14 ?_
  refine Z15 ?_
  refine Z1u ?_
  refine Z8 ?_
  refine qix (qmb (q.1:Int) (by omega) (by omega) _) rfl rfl (by decide) ?_
  refine Zh ?_
  refine ao1 (by decide) (q14v rfl rfl) ?_
  refine qe ?_
  rw [d1]
  refine Z1 ?_
  refine qa rfl (fun hc=>?_) (fun hc=>?_)
  ·have hb:(!qm4 b)=true:=by simpa using hc
   refine Z1v ?_
   rw [qbj (p:=fun b=>!qm4 b) h2 hb hno]
   exact Zb
  ·have hb:(!qm4 b)=false:=by simpa using hc
   have hq:=d3 Y1w
   refine Z1 ?_
   rw [hq]
   refine ⟨⟨by omega,?_⟩,Y8,rfl⟩
   rw [qj h2]
   intro y hy
   rcases List.mem_append.1 hy with h | h
   ·exact hno y h
   ·simp only [List.mem_singleton] at h
    subst h
    exact hb
 ·rintro k r hp ⟨hk,hno⟩
  have:k=s.size:=by omega
  subst this
  rw [← qch,List.take_length] at hno
  rw [qax (p:=fun b=>!qm4 b) hno]
  exact Z18
theorem qcq (s:ByteArray) (H:qf):AC Tryz.prog 186 [.str s,.fn (.func 145) [] []] H (Ret (.int .i64 (ixf (fun b=>!qm4 b) s.data.toList)) H):=by
 refine AC.body (N:=8) [.tmp 4] Tryz.func186 rfl rfl rfl (Nat.le_of_ble_eq_true rfl) fun B hB=>?_
 refine Z5 ?_
 refine Z7 ?_
 refine Z1t ?_
 refine q12 (qc0 _ _) rfl (by decide) ?_
 exact Zc
theorem q9f (s:ByteArray) (H:qf):AC Tryz.prog 144 [.str s,.fn (.func 145) [] []] H (Ret (.bool (s.data.toList.any fun b=>!qm4 b)) H):=by
 refine AC.body (N:=9) [.tmp 4] Tryz.func144 rfl rfl rfl (Nat.le_of_ble_eq_true rfl) fun B hB=>?_
 refine Z1q ?_
 refine Z7 ?_
 refine Z1t ?_
 refine q12 (qcq _ _) rfl (by decide) ?_
 refine Z1r ?_
 refine Ze ?_
 rw [← q7e]
 exact Zb
theorem qlw (s:ByteArray) (H:qf):AC Tryz.prog 106 [.str s] H (Ret (.bool (qgc s)) H):=by
 rw [show qgc s=(decide ((s.size:Int)≤16)&&!(s.data.toList.any fun b=>!qm4 b)) by simp [qgc,List.all_eq_not_any_not]]
 refine AC.body (N:=11) [.tmp 2] Tryz.func106 rfl rfl rfl (Nat.le_of_ble_eq_true rfl) fun B hB=>?_
 refine Zf ?_
 refine qn 2 (.bool (decide ((s.size:Int)≤16)&&!(s.data.toList.any fun b=>!qm4 b))) ?_ ?_
 ·refine Z6 ?_
  refine Z1b ?_
  refine Zi ?_
  refine qb rfl rfl (fun hg3=>?_) (fun hg3=>?_)
  ·refine q1c rfl rfl (by decide) (qk (v:=.str _) rfl) ?_
   refine q5r rfl rfl (by decide) (V2.call (q9f _ _) rfl) ?_
   refine Z1w ?_
   refine Zn ?_
   exact Z1x
  ·refine Z20 ?_
   exact Zo
 exact Z21
theorem qwg (t:Int) (H:qf):AC Tryz.prog 192 [.int .i64 t] H (Ret (.int .i64 (near t)) H):=by
 refine AC.body (N:=6) [.tmp 2] Tryz.func192 rfl rfl rfl (Nat.le_of_ble_eq_true rfl) fun B hB=>?_
 refine Z5 ?_
 refine Z11 ?_
 refine Z22 ?_
 refine ao1 (by decide) (qxv rfl rfl rfl) ?_
 exact Zc
theorem qtu (t l:Int) (H:qf):AC Tryz.prog 157 [.int .i64 t,.int .i64 l] H (Ret (.int .i64 (plus t l)) H):=by
 have h1:=qsj t
 have h2:=qsj l
 refine AC.body (N:=14) [.tmp 4] Tryz.func157 rfl rfl rfl (Nat.le_of_ble_eq_true rfl) fun B hB=>?_
 refine Z5 ?_
 refine Z11 ?_
 refine Z23 ?_
 refine Z8 ?_
 refine Z23 ?_
 refine Z8 ?_
 refine Z23 ?_
 refine ao1 (by decide) (q3e rfl rfl (qd (by omega) (by omega))) ?_
 refine Z22 ?_
 refine Z24 ?_
 exact Zc
theorem qh3 (t:Int) (H:qf):AC Tryz.prog 66 [.int .i64 t] H (Ret (.bool (decide (0≤t)&&decide (t≤4611686018427387904))) H):=by
 refine AC.body (N:=9) [.tmp 2] Tryz.func66 rfl rfl rfl (Nat.le_of_ble_eq_true rfl) fun B hB=>?_
 refine Zf ?_
 refine qn 2 (.bool (decide (0≤t)&&decide (t≤4611686018427387904))) ?_ ?_
 ·refine Z8 ?_
  refine Z25 ?_
  refine qb rfl rfl (fun hg2=>?_) (fun hg2=>?_)
  ·refine Zj ?_
   refine Zy ?_
   exact Zo
  ·refine Zt ?_
   exact Zo
 exact Z21
def qgt (a b:Int):Int:=if a<b then -1 else if b<a then 1 else 0
theorem qvi (t:Int) (H:qf):AC Tryz.prog 188 [.int .i64 t] H (Ret (.bool false) H):=by
 refine AC.body (N:=6) [.tmp 2] Tryz.func188 rfl rfl rfl (Nat.le_of_ble_eq_true rfl) fun B hB=>?_
 refine Z1q ?_
 refine Z26 ?_
 refine Z27 ?_
 refine Ze ?_
 rw [show (t != t)=false by simp]
 exact Zb
theorem qnl (a b:Int) (H:qf):AC Tryz.prog 151 [.int .i64 a,.int .i64 b] H (Ret (.int .i64 (qgt a b)) H):=by
 refine AC.body (N:=20) [.tmp 4] Tryz.func151 rfl rfl rfl (Nat.le_of_ble_eq_true rfl) fun B hB=>?_
 refine Z5 ?_
 refine Z11 ?_
 refine Z28 ?_
 refine Z1p ?_
 refine Z11 ?_
 refine Z28 ?_
 refine Z1p ?_
 refine Z29 ?_
 refine Z9 ?_
 refine qa rfl (fun hc=>?_) (fun hc=>?_)
 ·cases hc
 refine Z29 ?_
 refine Z9 ?_
 refine qa rfl (fun hc=>?_) (fun hc=>?_)
 ·cases hc
 refine Z2a ?_
 refine qa rfl (fun hc=>?_) (fun hc=>?_)
 ·refine Zz ?_
  rw [show qgt a b = -1 by simp at hc;simp [qgt,hc]]
  exact Zb
 ·refine Z26 ?_
  refine Z2c ?_
  refine qa rfl (fun hc=>?_) (fun hc=>?_)
  ·refine Zz ?_
   rw [show qgt a b=1 by simp at *;unfold qgt;rw [if_neg (by omega),if_pos (by omega)]]
   exact Zb
  ·refine Zz ?_
   rw [show qgt a b=0 by simp at *;unfold qgt;rw [if_neg (by omega),if_neg (by omega)]]
   exact Zb
abbrev eI (i:Int):List AV:=[.int .i64 i]
theorem qe9 (n a b:Int) (H:qf):AC Tryz.prog 117 [.int .i64 n,.int .i64 a,.int .i64 b] H (Ret (.bool (decide (a≤n)&&decide (n≤b))) H):=by
 refine AC.body (N:=15) [.tmp 6] Tryz.func117 rfl rfl rfl (Nat.le_of_ble_eq_true rfl) fun B hB=>?_
 refine Zf ?_
 refine qn 6 (.bool (decide (a≤n)&&decide (n≤b))) ?_ ?_
 ·refine Z2d ?_
  refine Z25 ?_
  refine qb rfl rfl (fun hg3=>?_) (fun hg3=>?_)
  ·refine Z2e ?_
   refine Zy ?_
   exact Zo
  ·refine Z20 ?_
   exact Zo
 exact Z21
theorem qje (n a b:Int) (H:qf):AC Tryz.prog 118 [.int .i64 n,.int .i64 a,.int .i64 b] H (Ret (.bool (decide (a≤n)&&decide (n≤b))) H):=by
 refine AC.body (N:=15) [.tmp 6] Tryz.func118 rfl rfl rfl (Nat.le_of_ble_eq_true rfl) fun B hB=>?_
 refine Zf ?_
 refine qn 6 (.bool (decide (a≤n)&&decide (n≤b))) ?_ ?_
 ·refine Z2d ?_
  refine Z25 ?_
  refine qb rfl rfl (fun hg3=>?_) (fun hg3=>?_)
  ·refine Z2e ?_
   refine Zy ?_
   exact Zo
  ·refine Z20 ?_
   exact Zo
 exact Z21
theorem qck (s:Spec) (H:qf):AC Tryz.prog 70 [.agg (q1k s)] H (Ret (.bool (q1s s)) H):=by
 refine AC.body (N:=49) [.tmp 2] Tryz.func70 rfl rfl rfl (Nat.le_of_ble_eq_true rfl) fun B hB=>?_
 refine Z2g ?_
 refine Z2j ?_
 refine qn 3 (.bool (quk s)) ?_ ?_
 ·refine Z2m ?_
  refine q12 (qe9 _ _ _ _) rfl (by decide) ?_
  refine Zh ?_
  refine qb rfl rfl (fun hg3=>?_) (fun hg3=>?_)
  ·refine Z2o ?_
   refine Z2p ?_
   refine Z2q ?_
   refine qb rfl rfl (fun hg8=>?_) (fun hg8=>?_)
   ·refine Z2o ?_
    refine Z2p ?_
    refine Zn ?_
    exact qe (Out.mk (by (refine congrArg AV.bool ?_;(simp only [quk] at *;(simp_all;done)))) Yb)
   ·refine Z20 ?_
    exact Z2r
  ·refine Z2s ?_
   refine Z20 ?_
   exact Z2r
 refine Z1 ?_
 refine qn 4 (.bool (q104 s)) ?_ ?_
 ·refine Z2k ?_
  refine ao1 (by decide) (qh (v:=.bool _) rfl (lk rfl rfl) rfl rfl rfl) ?_
  refine Zh ?_
  refine qb rfl rfl (fun hg2=>?_) (fun hg2=>?_)
  ·refine Z2w ?_
   refine Z2v ?_
   refine Zn ?_
   exact Z2x
  ·refine Z2o ?_
   refine Z2y ?_
   refine Z2z ?_
   refine qb rfl rfl (fun hg7=>?_) (fun hg7=>?_)
   ·refine Z2v ?_
    refine Zn ?_
    exact Z2x
   ·refine Z2o ?_
    refine Z2y ?_
    refine Z30 ?_
    exact qe (Out.mk (by (refine congrArg AV.bool ?_;(simp only [q104] at *;(simp_all;omega)))) Yb)
 refine Z1 ?_
 refine qn 2 (.bool (q1s s)) ?_ ?_
 ·refine Z31 ?_
  refine qb rfl rfl (fun hg1=>?_) (fun hg1=>?_)
  ·refine Z32 ?_
   refine Z2q ?_
   refine qb rfl rfl (fun hg4=>?_) (fun hg4=>?_)
   ·refine Z2n ?_
    refine q1c rfl rfl (by decide) (qh (v:=.str _) rfl (lk rfl rfl) rfl rfl rfl) ?_
    refine q5r rfl rfl (by decide) (V2.call (qlw _ _) rfl) ?_
    refine Z2q ?_
    refine qb rfl rfl (fun hg9=>?_) (fun hg9=>?_)
    ·refine Z2o ?_
     refine q5r rfl rfl (by decide) (V2.call (qje _ _ _ _) rfl) ?_
     refine Z2q ?_
     refine qb rfl rfl (fun hg14=>?_) (fun hg14=>?_)
     ·refine Z2o ?_
      refine Z2p ?_
      refine Zn ?_
      exact Z33
     ·refine Z20 ?_
      exact qe (Out.mk (by (refine congrArg AV.bool ?_;(simp only [q1s] at *;(simp_all;omega)))) Yb)
    ·refine Z2s ?_
     refine Z20 ?_
     exact Z33
   ·refine Z34 ?_
    refine Z20 ?_
    exact Z33
  ·refine Z1y ?_
   refine Zh ?_
   refine Z34 ?_
   refine Z20 ?_
   exact Z33
 exact Z21
structure Asks3 where
 n:Int
 c:Int
 g:Int
def asks (s:Spec):Asks3:=if q1s s then ⟨s.nodes,s.nodes * s.cores,s.nodes * s.gpus⟩ else ⟨0,0,0⟩
theorem qf0 (s:Spec) (t:Int) (H:qf):AC Tryz.prog 116 [.agg (q1k s),.int .i64 t] H (Ret (.int .i64 (q21 s t)) H):=by
 refine AC.body (N:=14) [.tmp 4] Tryz.func116 rfl rfl rfl (Nat.le_of_ble_eq_true rfl) fun B hB=>?_
 refine Z2g ?_
 refine Z35 ?_
 refine Z37 ?_
 refine Z38 ?_
 refine Z39 ?_
 refine qa rfl (fun hc=>?_) (fun hc=>?_)
 ·refine Z11 ?_
  refine Z3a ?_
  refine Za ?_
  rw [show q21 s t=plus t 0 by simp at hc;simp [q21,hc]]
  exact Zb
 ·refine Z11 ?_
  refine Z2m ?_
  refine Z3a ?_
  refine Z3c ?_
  refine Z1 ?_
  rw [show q21 s t=plus t s.long by simp at hc;simp [q21,hc]]
  exact Zb
end Go.Av
namespace Go.Av
def ql4:AV→Option Value
 | .int k n=>some (.int k n)
 | .bool b=>some (.bool b)
 | .str s=>some (.string s)
 | _=>none
theorem VR.flat_eq {O:Nat→Prop} {w:World} {S:List Slot} {v:AV} {u u':Value} (h:VR O w S v u) (hf:ql4 v=some u'):u=u':=by
 cases h<;>simp [ql4] at hf<;>exact hf
theorem VR.agg_flat {O:Nat→Prop} {w:World} {S:List Slot} {cs:List AV} {us:List Value} {u:Value} (h:VR O w S (.agg cs) u) (hf:cs.map ql4=us.map some):u = .agg us.toArray:=by
 cases h with
 | @agg _ _ vs hn hl h =>
  congr 1
  have hlen:cs.length=us.length:=by simpa using congrArg List.length hf
  apply Array.ext
  ·simp;omega
  ·intro j h1 h2
   have hj:j<cs.length:=by omega
   have hju:j<us.length:=by omega
   have e:ql4 cs[j]=some us[j]:=by
    have:=congrArg (·[j]?) hf
    simpa [hj,hju] using this
   have:=(h j cs[j] vs[j] (List.getElem?_eq_getElem hj) (Array.getElem?_eq_getElem h1)).flat_eq e
   simpa using this
section
variable {P : Program} {N : Nat} {env : Env} {H : qf} {ty : TypeId}
theorem q11n {t t':TypeId} {x y:Operand} {cs ds:List AV} {us vs:List Value} {b:Bool} (hx:aev env x = .agg cs) (hy:aev env y = .agg ds) (hu:cs.map ql4=us.map some) (hv:ds.map ql4=vs.map some)
  (hm:P.eqGuardType P.depth t=false) (hb:∀ w,(Op.equalIn 10000 t (.agg us.toArray) (.agg vs.toArray)).run P w = .ok b w):V1 P N (.binOp .eql t x y t') ty env H (.bool b):=by
 intro S a w hc
 have h1:=hc.ev x
 have h2:=hc.ev y
 rw [hx] at h1
 rw [hy] at h2
 have e1:=h1.agg_flat hu
 have e2:=h2.agg_flat hv
 refine ⟨.bool b,fun _ _ _ _=>?_,.bool⟩
 simp only [execOp,e1,e2,Sem.run_bind,run_eqGuard_agg w .eql t x y _ _ hm,Result.andThen_ok,run_eql_struct,hb w,Sem.run_pure]
theorem qnr {t t':TypeId} {x y:Operand} {cs ds:List AV} {us vs:List Value} {b:Bool} (hx:aev env x = .agg cs) (hy:aev env y = .agg ds) (hu:cs.map ql4=us.map some) (hv:ds.map ql4=vs.map some)
  (hm:P.eqGuardType P.depth t=false) (hb:∀ w,(Op.equalIn 10000 t (.agg us.toArray) (.agg vs.toArray)).run P w = .ok b w):V1 P N (.binOp .neq t x y t') ty env H (.bool (!b)):=by
 intro S a w hc
 have h1:=hc.ev x
 have h2:=hc.ev y
 rw [hx] at h1
 rw [hy] at h2
 have e1:=h1.agg_flat hu
 have e2:=h2.agg_flat hv
 refine ⟨.bool (!b),fun _ _ _ _=>?_,.bool⟩
 simp only [execOp,e1,e2,Sem.run_bind,run_eqGuard_agg w .neq t x y _ _ hm,Result.andThen_ok,run_neq_struct,hb w,Sem.run_pure]
end
end Go.Av
namespace Go.Av
open Go.Proofs
def qsg (s:Spec):List Value:=[.int .i64 s.nodes,.int .i64 s.cores,.int .i64 s.gpus,.string s.tag,.bool s.whole,.int .i64 s.long,.int .i64 s.prio]
theorem qr1 (a b:Spec) (w:World):(Op.equalIn 10000 23 (.agg (qsg a).toArray) (.agg (qsg b).toArray)).run Tryz.prog w = .ok (decide (a=b)) w:=by
 have hS:Tryz.prog.underlying 23=some (.struct (Tryz.prog.fieldsOf 23)):=by kernel_rfl
 have hp:Tryz.prog.stoodInHeld 23=false:=by kernel_rfl
 rw [show (10000:Nat)=9999+1 from rfl,run_equalIn_agg w 9999 23 _ _ hS hp]
 have u3:=Tryz.underlying3
 have a3:=Tryz.isAgg3
 have z3:=Tryz.sizeOf3
 simp only [qsg,Program.fieldsOf,Tryz.underlying23]
 go_simp
 have ht:a.tag.toList=b.tag.toList↔a.tag=b.tag:=by have:=qom a.tag b.tag;rw [Bool.eq_iff_iff] at this;simpa using this
 simp only [ht]
 cases a;cases b
 simp only [Spec.mk.injEq]
 (repeat' split)<;>simp_all
end Go.Av
namespace Go.Av
end Go.Av
namespace Go.Av
open Go.Proofs
abbrev qv (j:Job):List AV:=[.int .i64 j.id,.int .i64 j.spec.nodes,.int .i64 j.spec.cores,.int .i64 j.spec.gpus,.str j.spec.tag,.bool j.spec.whole,.int .i64 j.spec.long,.int .i64 j.spec.prio,.pl (j.needs.map eI),.int .i64 j.state,.int .i64 j.came,.int .i64 j.frm,.int .i64 j.tto]
theorem q109 (l:List Int):∀ r∈l.map eI,r.length=1:=q52 (e:=eI) (n:=1) (fun _=>rfl) l
theorem qd4 (n:Nat) (l:List Int):∀ r∈l.map eI,AV.bels n r=true:=q5a (e:=eI) (fun _=>rfl) l
theorem q3o (l:List Int) (H:qf) (hn:l.length≤1000000):AC Tryz.prog 128 [.pl (l.map eI)] H (Ret (.pl (l.map eI)) H):=by
 refine AC.body (N:=8) [.tmp 2] Tryz.func128 rfl rfl rfl (Nat.le_of_ble_eq_true rfl) fun B hB=>?_
 refine Z3i ?_
 refine q6e rfl Y1o (qac rfl rfl _ _ _ _) ?_ (fun _ _ h=>h.elim)
 rintro _ _ ⟨nb,rfl,hnb,rfl⟩
 refine Z3k ?_
 refine qa rfl (fun hc=>?_) (fun hc=>?_)
 ·subst hc
  have hb:l=[]:=by
   cases l with
   | nil=>rfl
   | cons x b=>simp at hnb
  subst hb
  refine Z3n ?_
  exact q2y (q4u hB (q2n rfl .nil) rfl rfl)
 ·refine Z2 ?_
  refine Z3o ?_
  refine Z3g ?_
  refine ao2 Y1o (q5h (sz:=1) (bytes:=8) rfl (Src.pl rfl (q109 l)) rfl (by decide) Y22 Y22 (qd4 0 l)) ?_
  exact Z3r
def qwf (l:List Int) (k:Nat):Int:=if k=0 then 0 else (l[k-1]?).getD 0
theorem qxx {id:Int} {l:List Int} {k:Nat} {n:Int} (hn:l[k]?=some n) (h:∀ i,i<k→ndB id l i=true):ndB id l k = !(decide (n≤qwf l k)||decide (id≤n)):=by
 rw [qn2 hn,qwf]
 cases k with
 | zero=>simp;rw [Bool.eq_iff_iff];simp;omega
 | succ k =>
  have hk:k<l.length:=by have:=(List.getElem?_eq_some_iff.1 hn).1;omega
  have hm:l[k]?=some l[k]:=List.getElem?_eq_getElem hk
  have h1:=h k (by omega)
  rw [qn2 hm] at h1
  simp only [Bool.and_eq_true,decide_eq_true_eq] at h1
  simp only [Nat.add_sub_cancel,hm,Option.getD_some]
  rw [Bool.eq_iff_iff]
  simp
  omega
theorem qt0 (j:Job) (H:qf):AC Tryz.prog 147 [.agg (qv j)] H (Ret (.bool (qar j)) H):=by
 refine AC.body (N:=28) [.tmp 2] Tryz.func147 rfl rfl rfl (Nat.le_of_ble_eq_true rfl) fun B hB=>?_
 refine Z3t ?_
 refine Z2i ?_
 refine Z3w ?_
 refine Z3x ?_
 refine Z2b ?_
 refine Z3z ?_
 refine qa rfl (fun hc=>?_) (fun hc=>?_)
 ·refine Zf ?_
  rw [show qar j=false by simp at hc;simp [qar];omega]
  exact Zb
 have hl:j.needs.length≤16:=by simp at hc;omega
 rw [show qar j=qna j.id j.needs by simp [qar,hl]]
 refine Z5 ?_
 refine Z3w ?_
 refine Z42 ?_
 refine qm (G:=Nat) (fun k=>k≤j.needs.length∧∀ i,i<k→ndB j.id j.needs i=true) (fun k=>[(1,.pt (Lid H.length 0) 0 0 0),(3,.int .i64 (qwf j.needs k)),(11,.pl (j.needs.map eI)),(12,.int .i64 (j.needs.length:Int)),(13,.int .i64 (k:Int))]) (fun _=>H++[⟨0,13,[qv j]⟩]) (fun k=>j.needs.length-k) 0 ⟨Nat.zero_le _,fun i hi=>by omega⟩ Y8 (Fit.refl _ _) ?_
 rintro k ⟨hk,hno⟩
 refine Z43 ?_
 refine qa rfl (fun hc=>?_) (fun hc=>?_)
 ·have hlt:k<j.needs.length:=by simpa using hc
  obtain ⟨x,hx,hxl⟩:=qo hlt
  have hr:=ql eI hx
  have hok:=qxx hx hno
  refine Z47 ?_
  refine Za ?_
  refine qn 25 (.bool (!ndB j.id j.needs k)) ?_ ?_
  ·refine Z2d ?_
   refine Zi ?_
   refine qb rfl rfl (fun hg3=>?_) (fun hg3=>?_)
   ·refine Z49 ?_
    exact Z4a
   ·refine Zj ?_
    refine Z2o ?_
    refine Z4b ?_
    refine Zr ?_
    exact Z4c
  refine Z1 ?_
  refine qa rfl (fun hc=>?_) (fun hc=>?_)
  ·refine Zf ?_
   rw [qze hlt Y1y]
   exact Zb
  ·have hlast:qwf j.needs (k+1)=x:=by rw [qwf,if_neg (by omega),Nat.add_sub_cancel,hx];rfl
   refine Z1c ?_
   refine Z4f ?_
   refine ⟨k+1,by omega,⟨by omega,fun i hi=>?_⟩,by rw [hlast];exact Y8,.refl _ _⟩
   rcases Nat.lt_or_eq_of_le (Nat.le_of_lt_succ hi) with h | h
   ·exact hno i h
   ·subst h;simpa using hc
 ·have:k=j.needs.length:=by simp at hc;omega
  subst this
  rw [qx6 hno]
  exact Z4g
set_option maxHeartbeats 0 in
theorem qvu (j:Job) (H:qf):AC Tryz.prog 148 [.agg (qv j)] H (Ret (.bool (q4t j)) H):=by
 refine AC.body (N:=78) [.tmp 2] Tryz.func148 rfl rfl rfl (Nat.le_of_ble_eq_true rfl) fun B hB=>?_
 refine Z3t ?_
 refine Z2j ?_
 refine qn 3 (.bool (qb8 j)) ?_ ?_
 ·refine Z2m ?_
  refine Z4h ?_
  refine Zh ?_
  refine qb rfl rfl (fun hg3=>?_) (fun hg3=>?_)
  ·refine Z4i ?_
   refine Z4b ?_
   refine Zn ?_
   exact qe (Out.mk (by (refine congrArg AV.bool ?_;(simp only [qb8,tm] at *;(simp_all;done)))) Yb)
  ·refine Z4k ?_
   exact qe (Out.mk (by (refine congrArg AV.bool ?_;(simp only [qb8,tm] at *;(simp_all;omega)))) Yb)
 refine Z1 ?_
 refine qn 4 (.bool (qfm j)) ?_ ?_
 ·refine Z2m ?_
  refine Z4h ?_
  refine Zh ?_
  refine qb rfl rfl (fun hg3=>?_) (fun hg3=>?_)
  ·refine Z4i ?_
   refine Z2o ?_
   refine Z4l ?_
   refine Z4b ?_
   refine Zn ?_
   exact qe (Out.mk (by (refine congrArg AV.bool ?_;(simp only [qfm,tm] at *;(simp_all;done)))) Yb)
  ·refine Z4m ?_
   refine Z4n ?_
   exact qe (Out.mk (by (refine congrArg AV.bool ?_;(simp only [qfm,tm] at *;(simp_all;omega)))) Yb)
 refine Z4o ?_
 refine Z3y ?_
 refine Z4p ?_
 refine qa rfl (fun hc=>?_) (fun hc=>?_)
 ·have hs:j.state=0:=by simpa using hc
  refine Z1 ?_
  refine qa rfl (fun hc=>?_) (fun hc=>?_)
  ·refine Z1 ?_
   refine qn 2 (.bool (q4t j)) ?_ ?_
   ·refine Z2m ?_
    refine Z4q ?_
    refine qb rfl rfl (fun hg3=>?_) (fun hg3=>?_)
    ·refine Z2o ?_
     refine Z4r ?_
     exact Z4t
    ·refine Z20 ?_
     exact Z4s
   exact Z21
  ·simp [hs] at hc
 ·have h0:j.state≠0:=by simpa using hc
  refine q16 ?_
  refine Z13 ?_
  refine qa rfl (fun hc=>?_) (fun hc=>?_)
  ·have hs:j.state=1:=by simpa using hc
   refine Z1 ?_
   refine qn 2 (.bool (q4t j)) ?_ ?_
   ·refine Z2m ?_
    refine Z4q ?_
    refine qb rfl rfl (fun hg3=>?_) (fun hg3=>?_)
    ·refine Z2o ?_
     refine Z4r ?_
     exact Z4t
    ·refine Z20 ?_
     exact Z4s
   exact Z21
  ·have h1:j.state≠1:=by simpa using hc
   refine Z4p ?_
   refine qa rfl (fun hc=>?_) (fun hc=>?_)
   ·have hs:j.state=2:=by simpa using hc
    refine Z1 ?_
    refine qn 2 (.bool (q4t j)) ?_ ?_
    ·refine Z31 ?_
     refine qb rfl rfl (fun hg1=>?_) (fun hg1=>?_)
     ·refine Z2o ?_
      refine Z4r ?_
      exact Z4t
     ·refine Z20 ?_
      exact Z4s
    exact Z21
   ·have h2:j.state≠2:=by simpa using hc
    refine Z4p ?_
    refine qa rfl (fun hc=>?_) (fun hc=>?_)
    ·have hs:j.state=3:=by simpa using hc
     refine Z1 ?_
     refine qa rfl (fun hc=>?_) (fun hc=>?_)
     ·refine Z1 ?_
      refine qn 2 (.bool (q4t j)) ?_ ?_
      ·refine Z31 ?_
       refine qb rfl rfl (fun hg1=>?_) (fun hg1=>?_)
       ·refine Z32 ?_
        exact Z4t
       ·refine Z4u ?_
        exact Z4s
      exact Z21
     ·simp [hs] at hc
    ·have h3:j.state≠3:=by simpa using hc
     refine q16 ?_
     refine Z13 ?_
     refine qa rfl (fun hc=>?_) (fun hc=>?_)
     ·have hs:j.state=4:=by simpa using hc
      refine Z1 ?_
      refine qn 2 (.bool (q4t j)) ?_ ?_
      ·refine Z31 ?_
       refine qb rfl rfl (fun hg1=>?_) (fun hg1=>?_)
       ·refine Z32 ?_
        exact Z4t
       ·refine Z4u ?_
        exact Z4s
      exact Z21
     ·have h4:j.state≠4:=by simpa using hc
      refine Z4p ?_
      refine qa rfl (fun hc=>?_) (fun hc=>?_)
      ·have hs:j.state=5:=by simpa using hc
       refine Z1 ?_
       refine qn 2 (.bool (q4t j)) ?_ ?_
       ·refine Z31 ?_
        refine qb rfl rfl (fun hg1=>?_) (fun hg1=>?_)
        ·refine Z2w ?_
         refine Z32 ?_
         exact Z4t
        ·refine Z2o ?_
         refine Z4r ?_
         refine Z2z ?_
         refine qb rfl rfl (fun hg6=>?_) (fun hg6=>?_)
         ·refine Z32 ?_
          exact Z4t
         ·refine Z4u ?_
          exact Z4s
       exact Z21
      ·have h5:j.state≠5:=by simpa using hc
       refine Z1 ?_
       refine qn 2 (.bool (q4t j)) ?_ ?_
       ·refine Z2m ?_
        refine Z4q ?_
        refine qb rfl rfl (fun hg3=>?_) (fun hg3=>?_)
        ·refine Z2o ?_
         refine Z4v ?_
         refine qb rfl rfl (fun hg8=>?_) (fun hg8=>?_)
         ·refine Z32 ?_
          refine Zn ?_
          exact Z4w
         ·refine Z4u ?_
          exact Z4w
        ·refine Z2s ?_
         refine Z4u ?_
         exact Z4w
       exact Z21
theorem qlc (j:Job) (H:qf):AC Tryz.prog 109 [.agg (qv j)] H (Ret (.bool (q28 j)) H):=by
 refine AC.body (N:=29) [.tmp 2] Tryz.func109 rfl rfl rfl (Nat.le_of_ble_eq_true rfl) fun B hB=>?_
 refine Z3t ?_
 refine Z2j ?_
 refine qn 2 (.bool (q28 j)) ?_ ?_
 ·refine Z2m ?_
  refine Z25 ?_
  refine qb rfl rfl (fun hg3=>?_) (fun hg3=>?_)
  ·refine Z2o ?_
   refine Zx ?_
   refine Z2q ?_
   refine qb rfl rfl (fun hg8=>?_) (fun hg8=>?_)
   ·refine Z2n ?_
    refine Z4x ?_
    refine Z4y ?_
    refine Z2q ?_
    refine qb rfl rfl (fun hg13=>?_) (fun hg13=>?_)
    ·refine Z4z ?_
     refine q5r rfl rfl (by decide) (V2.call (qt0 _ _) rfl) ?_
     refine Z2q ?_
     refine qb rfl rfl (fun hg17=>?_) (fun hg17=>?_)
     ·refine Z2o ?_
      refine Z50 ?_
      refine Z2q ?_
      refine qb rfl rfl (fun hg22=>?_) (fun hg22=>?_)
      ·refine Z4z ?_
       refine q5r rfl rfl (by decide) (V2.call (qvu _ _) rfl) ?_
       refine Zn ?_
       exact Z51
      ·refine Zt ?_
       exact Z52
     ·refine Z2s ?_
      refine Zt ?_
      exact Z51
    ·refine Z54 ?_
     refine Zt ?_
     exact Z51
   ·refine Z2s ?_
    refine Z54 ?_
    refine Zt ?_
    exact Z52
  ·refine Z34 ?_
   refine Z54 ?_
   refine Zt ?_
   exact Z52
 exact Z21
set_option maxHeartbeats 0 in
theorem qxr (s w:Int) (H:qf):AC Tryz.prog 239 [.int .i64 s,.int .i64 w] H (Ret (.tup [.int .i64 (nx s w).1,.bool (nx s w).2]) H):=by
 refine AC.body (N:=56) [.tmp 4,.tmp 5] Tryz.func239 rfl rfl rfl (Nat.le_of_ble_eq_true rfl) fun B hB=>?_
 refine Z56 ?_
 refine qn 6 (.bool (decide (s=0∧w=1))) ?_ ?_
 ·refine Z57 ?_
  refine qb rfl rfl (fun hg2=>?_) (fun hg2=>?_)
  ·exact Z5a
  ·refine Zt ?_
   exact Z1x
 refine Z1 ?_
 refine qa rfl (fun hc=>?_) (fun hc=>?_)
 ·have h:s=0∧w=1:=by simpa only [decide_eq_true_eq] using hc
  have e:nx s w=(1,true):=by rw [nx,q56,if_pos h]
  refine Z56 ?_
  rw [e]
  exact Z5b
 have h0:¬ (s=0∧w=1):=by simpa only [decide_eq_false_iff_not] using hc
 refine Z1 ?_
 refine qn 13 (.bool (decide (s=1∧w=2))) ?_ ?_
 ·refine Z57 ?_
  refine qb rfl rfl (fun hg2=>?_) (fun hg2=>?_)
  ·exact Z5a
  ·refine Zt ?_
   exact Z1x
 refine Z1 ?_
 refine qa rfl (fun hc=>?_) (fun hc=>?_)
 ·have h:s=1∧w=2:=by simpa only [decide_eq_true_eq] using hc
  have e:nx s w=(0,true):=by rw [nx,q56,if_neg h0,if_pos h]
  refine Z56 ?_
  rw [e]
  exact Z5b
 have h1:¬ (s=1∧w=2):=by simpa only [decide_eq_false_iff_not] using hc
 refine Z1 ?_
 refine qn 20 (.bool (decide (s=0∧w=3))) ?_ ?_
 ·refine Z57 ?_
  refine qb rfl rfl (fun hg2=>?_) (fun hg2=>?_)
  ·exact Z5a
  ·refine Zt ?_
   exact Z1x
 refine Z1 ?_
 refine qa rfl (fun hc=>?_) (fun hc=>?_)
 ·have h:s=0∧w=3:=by simpa only [decide_eq_true_eq] using hc
  have e:nx s w=(2,true):=by rw [nx,q56,if_neg h0,if_neg h1,if_pos h]
  refine Z56 ?_
  rw [e]
  exact Z5b
 have h2:¬ (s=0∧w=3):=by simpa only [decide_eq_false_iff_not] using hc
 refine Z1 ?_
 refine qn 27 (.bool (decide (s=2∧w=4))) ?_ ?_
 ·refine Z57 ?_
  refine qb rfl rfl (fun hg2=>?_) (fun hg2=>?_)
  ·exact Z5a
  ·refine Zt ?_
   exact Z1x
 refine Z1 ?_
 refine qa rfl (fun hc=>?_) (fun hc=>?_)
 ·have h:s=2∧w=4:=by simpa only [decide_eq_true_eq] using hc
  have e:nx s w=(3,true):=by rw [nx,q56,if_neg h0,if_neg h1,if_neg h2,if_pos h]
  refine Z56 ?_
  rw [e]
  exact Z5b
 have h3:¬ (s=2∧w=4):=by simpa only [decide_eq_false_iff_not] using hc
 refine Z1 ?_
 refine qn 34 (.bool (decide (s=2∧w=5))) ?_ ?_
 ·refine Z57 ?_
  refine qb rfl rfl (fun hg2=>?_) (fun hg2=>?_)
  ·exact Z5a
  ·refine Zt ?_
   exact Z1x
 refine Z1 ?_
 refine qa rfl (fun hc=>?_) (fun hc=>?_)
 ·have h:s=2∧w=5:=by simpa only [decide_eq_true_eq] using hc
  have e:nx s w=(4,true):=by rw [nx,q56,if_neg h0,if_neg h1,if_neg h2,if_neg h3,if_pos h]
  refine Z56 ?_
  rw [e]
  exact Z5b
 have h4:¬ (s=2∧w=5):=by simpa only [decide_eq_false_iff_not] using hc
 refine Z1 ?_
 refine qn 41 (.bool (decide (s≤2∧w=6))) ?_ ?_
 ·refine Z8 ?_
  refine Zi ?_
  refine qb rfl rfl (fun hg2=>?_) (fun hg2=>?_)
  ·exact Z5a
  ·refine Zt ?_
   exact Z5c
 refine Z1 ?_
 refine qa rfl (fun hc=>?_) (fun hc=>?_)
 ·have h:s≤2∧w=6:=by simpa only [decide_eq_true_eq] using hc
  have e:nx s w=(5,true):=by rw [nx,q56,if_neg h0,if_neg h1,if_neg h2,if_neg h3,if_neg h4,if_pos h]
  refine Z56 ?_
  rw [e]
  exact Z5b
 have h5:¬ (s≤2∧w=6):=by simpa only [decide_eq_false_iff_not] using hc
 refine Z1 ?_
 refine qn 48 (.bool (decide (s<2∧w=7))) ?_ ?_
 ·refine Zw ?_
  refine qb rfl rfl (fun hg2=>?_) (fun hg2=>?_)
  ·exact Z5a
  ·refine Zt ?_
   exact Z5c
 refine Z1 ?_
 refine qa rfl (fun hc=>?_) (fun hc=>?_)
 ·have h:s<2∧w=7:=by simpa only [decide_eq_true_eq] using hc
  have e:nx s w=(6,true):=by rw [nx,q56,if_neg h0,if_neg h1,if_neg h2,if_neg h3,if_neg h4,if_neg h5,if_pos h]
  refine Z56 ?_
  rw [e]
  exact Z5b
 have h6:¬ (s<2∧w=7):=by simpa only [decide_eq_false_iff_not] using hc
 have e:nx s w=(s,false):=by rw [nx,q56,if_neg h0,if_neg h1,if_neg h2,if_neg h3,if_neg h4,if_neg h5,if_neg h6]
 refine Z11 ?_
 refine Z55 ?_
 rw [e]
 exact Z5b
theorem qoo (s:Int) (H:qf):AC Tryz.prog 169 [.int .i64 s] H (Ret (.bool (q5j s)) H):=by
 refine AC.body (N:=9) [.tmp 2] Tryz.func169 rfl rfl rfl (Nat.le_of_ble_eq_true rfl) fun B hB=>?_
 refine Zf ?_
 refine qn 2 (.bool (q5j s)) ?_ ?_
 ·refine Z8 ?_
  refine Z25 ?_
  refine qb rfl rfl (fun hg2=>?_) (fun hg2=>?_)
  ·refine Zj ?_
   refine Zy ?_
   exact qe (Out.mk (by (refine congrArg AV.bool ?_;(simp only [q5j] at *;(simp_all;done)))) Yb)
  ·refine Zt ?_
   exact qe (Out.mk (by (refine congrArg AV.bool ?_;(simp only [q5j] at *;(simp_all;omega)))) Yb)
 exact Z21
set_option maxHeartbeats 0 in
theorem q13v (j:Job) (w now:Int) (hn:j.needs.length≤1000000) (H:qf):AC Tryz.prog 205 [.agg (qv j),.int .i64 w,.int .i64 now] H (Ret (.tup [.agg (qv (jdo j w now).1),.int .i64 (jdo j w now).2]) H):=by
 refine AC.body (N:=61) [.cell 6 98,.tmp 7] Tryz.func205 rfl rfl rfl (Nat.le_of_ble_eq_true rfl) fun B hB=>?_
 refine Z3t ?_
 refine Z5d ?_
 refine Z4 ?_
 refine Z5e ?_
 refine Z3w ?_
 refine Z5f ?_
 refine Z2k ?_
 refine Z5g ?_
 refine Z5i ?_
 refine Z1 ?_
 refine qn 38 (.bool (qn4 j w now)) ?_ ?_
 ·refine Z36 ?_
  refine q12 (qlc _ _) rfl (by decide) ?_
  refine Z5j ?_
  refine qb rfl rfl (fun hg3=>?_) (fun hg3=>?_)
  ·refine Z5k ?_
   refine Z5k ?_
   refine Z2w ?_
   refine Z5m ?_
   exact Z5n
  ·refine Zl ?_
   refine Z2z ?_
   refine qb rfl rfl (fun hg7=>?_) (fun hg7=>?_)
   ·refine Z5k ?_
    refine Z2w ?_
    refine Z5m ?_
    exact Z5n
   ·refine Z5o ?_
    refine Z2z ?_
    refine qb rfl rfl (fun hg11=>?_) (fun hg11=>?_)
    ·refine Z2w ?_
     refine Z5m ?_
     exact Z5n
    ·refine Zj ?_
     refine Z50 ?_
     refine Z5p ?_
     refine qb rfl rfl (fun hg16=>?_) (fun hg16=>?_)
     ·refine Z5m ?_
      exact Z5n
     ·refine Zj ?_
      refine Z4i ?_
      refine Z4l ?_
      refine Zk ?_
      refine Zr ?_
      exact qe (Out.mk (by (refine congrArg AV.bool ?_;(simp only [qn4,tm] at *;(simp_all;omega)))) Yb)
 refine Z1 ?_
 refine qa rfl (fun hc=>?_) (fun hc=>?_)
 ·refine Z37 ?_
  refine Z5r ?_
  refine Z5t ?_
  rw [show jdo j w now=(j,1) by rw [jdo,if_pos hc]]
  exact Z5u
 have hb:qn4 j w now=false:=hc
 have c4:=fun H=>qxr j.state w H
 cases hnx:q56 j.state w with
 | none =>
  rw [show nx j.state w=(j.state,false) by rw [nx,hnx]] at c4
  refine Z5v ?_
  refine Z5w ?_
  refine Z62 ?_
  refine Z63 ?_
  refine Z64 ?_
  refine qa rfl (fun hc=>?_) (fun hc=>?_)
  ·refine Z37 ?_
   refine Z5r ?_
   refine Z5t ?_
   rw [show jdo j w now=(j,8) by rw [jdo,if_neg (by rw [hb];simp),hnx]]
   exact Z5u
  ·simp at hc
 | some s =>
  rw [show nx j.state w=(s,true) by rw [nx,hnx]] at c4
  rw [show jdo j w now=(q4o j s now,0) by rw [jdo,if_neg (by rw [hb];simp),hnx]]
  refine Z5v ?_
  refine Z5w ?_
  refine Z62 ?_
  refine Z63 ?_
  refine Z64 ?_
  refine qa rfl (fun hc=>?_) (fun hc=>?_)
  ·simp at hc
  refine Z11 ?_
  refine Z2k ?_
  refine Z65 ?_
  refine Z5i ?_
  refine Z17 ?_
  refine qa rfl (fun hc=>?_) (fun hc=>?_)
  ·have hs:s=2:=by simpa using hc
   rw [show q4o j s now=⟨j.id,j.spec,j.needs,s,j.came,now,j.tto⟩ by rw [q4o,if_pos hs,if_neg (by rw [hs];decide)]]
   refine Z66 ?_
   refine Z2k ?_
   refine Z65 ?_
   refine Z5i ?_
   refine Z11 ?_
   refine Z67 ?_
   refine Z9 ?_
   refine qa rfl (fun hc=>?_) (fun hc=>?_)
   ·rw [hs] at hc;exact absurd hc (by decide)
   refine Z37 ?_
   refine Z5r ?_
   exact Z69
  ·have hs:¬ s=2:=by simpa using hc
   refine Z11 ?_
   refine Z67 ?_
   refine Z9 ?_
   refine qa rfl (fun hc=>?_) (fun hc=>?_)
   ·rw [show q4o j s now=⟨j.id,j.spec,j.needs,s,j.came,j.frm,now⟩ by rw [q4o,if_neg hs,if_pos hc]]
    refine Z66 ?_
    refine Z2k ?_
    refine Z65 ?_
    refine Z5i ?_
    refine Z37 ?_
    refine Z5r ?_
    exact Z69
   ·rw [show q4o j s now=⟨j.id,j.spec,j.needs,s,j.came,j.frm,j.tto⟩ by rw [q4o,if_neg hs,if_neg (by rw [hc];simp)]]
    refine Z37 ?_
    refine Z5r ?_
    exact Z69
theorem q11k {α:Type} {a b:List α} {k:Nat} {x:α} (hx:a[k]?=some x) (hy:b[k]?=some x) (h:a.take k=b.take k):a.take (k+1)=b.take (k+1):=by
 rw [qj hx,qj hy,h]
theorem q11b {α:Type} {a b:List α} (hn:a.length=b.length) (h:a.take a.length=b.take a.length):a=b:=by
 rw [List.take_length,hn,List.take_length] at h;exact h
theorem q14z {α:Type} {a b:List α} {k:Nat} {x y:α} (hx:a[k]?=some x) (hy:b[k]?=some y) (h:x≠y):a≠b:=by
 rintro rfl;rw [hx] at hy;exact h (Option.some.inj hy)
theorem q8y (a b:List Int) (H:qf) (ha:a.length≤1000000000):AC Tryz.prog 39 [.pl (a.map eI),.pl (b.map eI)] H (Ret (.bool (decide (a=b))) H):=by
 refine AC.body (N:=26) [.tmp 4] Tryz.func39 rfl rfl rfl (Nat.le_of_ble_eq_true rfl) fun B hB=>?_
 refine Z6f ?_
 refine qa rfl (fun hc=>?_) (fun hc=>?_)
 ·have hn:a.length≠b.length:=by simp at hc;omega
  rw [show decide (a=b)=false by simp;intro e;exact hn (congrArg List.length e)]
  exact Z4g
 have hn:a.length=b.length:=by simp at hc;omega
 refine Z1e ?_
 refine qm (G:=Nat) (fun k=>k≤a.length∧a.take k=b.take k) (fun k=>[(0,.pl (a.map eI)),(1,.pl (b.map eI)),(5,.int .i64 (k:Int))]) (fun _=>H++[]) (fun k=>a.length-k) 0 ⟨Nat.zero_le _,by simp⟩ Y8 (Fit.refl _ _) ?_
 rintro k ⟨hk,he⟩
 refine Z6h ?_
 refine qa rfl (fun hc=>?_) (fun hc=>?_)
 ·have hlt:k<a.length:=by simpa using hc
  obtain ⟨x,hx,_⟩:=qo hlt
  obtain ⟨y,hy,_⟩:=qo (l:=b) (k:=k) (by omega)
  have hr:=ql eI hx
  have hr1:=ql eI hy
  refine Z1h ?_
  refine Z6j ?_
  refine Z6k ?_
  refine Z6l ?_
  refine Z6n ?_
  refine Z6o ?_
  refine Z6p ?_
  refine Z6q ?_
  refine Z1m ?_
  refine qa rfl (fun hc=>?_) (fun hc=>?_)
  ·rw [show decide (a=b)=false by simp;exact q14z hx hy Y1y]
   exact Z4g
  ·have hxy:x=y:=by simpa using hc
   subst hxy
   refine Z6s ?_
   exact ⟨k+1,by omega,⟨by omega,q11k hx hy he⟩,Y8,.refl _ _⟩
 ·have:k=a.length:=by simp at hc;omega
  subst this
  rw [show decide (a=b)=true by simp;exact q11b hn he]
  exact Z4g
set_option maxHeartbeats 0 in
theorem qqr (a b:Job) (H:qf) (ha:a.needs.length≤1000000):AC Tryz.prog 103 [.agg (qv a),.agg (qv b)] H (Ret (.bool (decide (a=b))) H):=by
 have he:decide (a=b)=(a.id == b.id&&decide (a.spec=b.spec)&&a.state == b.state&&a.came == b.came&&a.frm == b.frm&&a.tto == b.tto&&decide (a.needs=b.needs)):=by
  cases a;cases b;simp [Bool.beq_eq_decide_eq];grind
 rw [he]
 refine AC.body (N:=52) [.tmp 4] Tryz.func103 rfl rfl rfl (Nat.le_of_ble_eq_true rfl) fun B hB=>?_
 refine Z3t ?_
 refine Z3s ?_
 refine Z6u ?_
 refine qn 4 (.bool (a.id == b.id&&decide (a.spec=b.spec)&&a.state == b.state&&a.came == b.came&&a.frm == b.frm&&a.tto == b.tto&&decide (a.needs=b.needs))) ?_ ?_
 ·refine Z6v ?_
  refine Z4q ?_
  refine qb rfl rfl (fun hg5=>?_) (fun hg5=>?_)
  ·refine Z2n ?_
   refine Z4x ?_
   refine Z2n ?_
   refine Z4x ?_
   refine Z6w ?_
   refine Z2q ?_
   refine qb rfl rfl (fun hg12=>?_) (fun hg12=>?_)
   ·refine Z6x ?_
    refine qb rfl rfl (fun hg19=>?_) (fun hg19=>?_)
    ·refine Z6x ?_
     refine qb rfl rfl (fun hg26=>?_) (fun hg26=>?_)
     ·refine Z6x ?_
      refine qb rfl rfl (fun hg33=>?_) (fun hg33=>?_)
      ·refine Z6x ?_
       refine qb rfl rfl (fun hg40=>?_) (fun hg40=>?_)
       ·refine Z70 ?_
        refine q5r rfl rfl (by decide) (V2.call (q8y a.needs b.needs _ (by omega)) rfl) ?_
        refine Zn ?_
        exact Z71
       ·refine Z4k ?_
        exact Z71
      ·refine Z73 ?_
       exact Z71
     ·refine Z75 ?_
      exact Z71
    ·refine Z76 ?_
     exact Z71
   ·refine Z74 ?_
    refine Z75 ?_
    exact Z71
  ·refine Z74 ?_
   refine Z76 ?_
   exact Z71
 exact Z21
end Go.Av
namespace Go.Av
structure Know where
 g:Nat
 tab:List Value
def Kn (K:Know) (S:List Slot) (w:World):Prop:=¬ own S K.g∧K.g<w.heap.size∧(∀ j v,K.tab[j]?=some v→w.cell? ⟨K.g,j,none⟩=some v)∧∃ ty fz,w.heap[K.g]?=some (Obj.cells K.tab.toArray ty fz)
abbrev Know.av (K:Know):AV:=.know K.g K.tab
theorem VR.kn {S:List Slot} {w:World} {K:Know} {u:Value} (h:VR (own S) w S K.av u):Kn K S w:=by
 cases h with
 | know ho hg h hx=>exact ⟨ho,hg,h,hx⟩
theorem Kn.vr {S:List Slot} {w:World} {K:Know} {u:Value} (h:Kn K S w):VR (own S) w S K.av u:=.know h.1 h.2.1 h.2.2.1 h.2.2.2
def ACT (P:Program) (K:Know) (f:FuncId) (args:List AV) (H:qf) (R:AOut→qf→Prop):Prop :=
 ∀ S w cargs,Kn K S w→HRel H S w→VRs (own S) w S args cargs →
  Calls P f cargs w fun e w'=>∃ o H' S',R o H'∧OutR (own S') w' S' o e∧HRel H' S' w'∧Ext S w S' w'
section
variable {P : Program} {N : Nat} {B : Base} {env : Env} {H H0 L : qf} {ty : TypeId}
theorem V2.callT {K:Know} {f:Nat} {xs:Array Operand} {ts:Array TypeId} {v:AV} {vs:List AV} {M:qf} [FnI P f] (hac:ACT P K f vs H (Ret v M)) (hvs:xs.toList.map (aev env)=vs) (hk:get env KT=K.av) :
  V2 P N (.call { callee:=.value (.func f),args:=xs,argTypes:=ts }) ty env H v M:=by
 subst hvs
 intro dst pos after guard S a w hc next Q hn hp
 have hkn:=hc.env KT
 rw [hk] at hkn
 have hrun:(execOp a.eval ⟨dst,.call { callee:=.value (.func f),args:=xs,argTypes:=ts },ty,pos,after,guard⟩).run P w = .ok (.enter f (xs.map a.eval)) w:=by
  simp [execOp,resolve,Act.eval,Deferred.ofValue,invoke,q4v (P:=P) (f:=f)]
 unfold Oper.wp
 rw [hrun]
 refine (hac S w (xs.map a.eval) hkn.kn hc.heap (qhe hc xs)).mono ?_
 rintro e w' ⟨out,H',S',⟨rfl,rfl⟩,hout,hh,hx⟩
 cases hout with
 | ret hv=>exact hn _ _ _ S' w' ⟨rfl,rfl⟩ hh hx hv
theorem ACT.up {K:Know} {f:FuncId} {vs us:List AV} {R:AOut→qf→Prop} (h:ACT P K f us H R) (hvs:vs.map AV.up=us):ACT P K f vs H R:=fun S w cargs hk hH hv=>h S w cargs hk hH (hvs▸hv.up)
theorem V2.callTu {K:Know} {f:Nat} {xs:Array Operand} {ts:Array TypeId} {v:AV} {us:List AV} {M:qf} [FnI P f] (hac:ACT P K f us H (Ret v M)) (hvs:(xs.toList.map (aev env)).map AV.up=us) (hk:get env KT=K.av) :
  V2 P N (.call { callee:=.value (.func f),args:=xs,argTypes:=ts }) ty env H v M:=V2.callT (hac.up hvs) rfl hk
theorem ACT.body {K:Know} {f:FuncId} {N:Nat} {fn:Func} {c:Code} {args:List AV} {R:AOut→qf→Prop} (rs:List ResultVar) (hf:P.funcs[f]?=some fn) (hb:fn.body=some c) (hr:fn.results=rs.toArray)
  (hN:fn.ntmps=N) (hn:args.length≤N) (h:∀ B,Begun B H args→AWp P N B c (Ends P B rs R) ((KT,K.av) :: params 0 args) (H++[])):ACT P K f args H R:=by
 subst hN
 simp only [List.append_nil] at h
 intro S w cargs hkn hH hv
 refine calls_of_wp hf hb ?_
 have hc:CR fn.ntmps ((KT,K.av) :: params 0 args) H S { tmps:=cargs++Array.replicate (fn.ntmps-cargs.size) undef,defers:=[] } w:=by
  refine ⟨hH,fun t=>?_,?_,rfl⟩
  ·by_cases hKT:KT=t
   ·subst hKT;rw [qt];exact hkn.vr
   rw [qg _ _ hKT,qco,if_pos (Nat.zero_le _),Nat.sub_zero]
   by_cases ht:t<args.length
   ·have h1:args.getD t .junk=args[t]:=by simp [List.getD,ht]
    have ht':t<cargs.size:=by rw [← hv.1];exact ht
    have h2:(cargs++Array.replicate (fn.ntmps-cargs.size) undef).getD t undef=cargs[t]:=by
     simp [Array.getElem?_append_left ht',ht']
    rw [h1,h2]
    exact hv.2 t _ _ (List.getElem?_eq_getElem ht) (Array.getElem?_eq_getElem ht')
   ·have h1:args.getD t .junk = .junk:=by simp [List.getD,List.getElem?_eq_none (Nat.le_of_not_lt ht)]
    rw [h1];exact .junk
  ·have:=hv.1
   simp
   omega
 have hbg:Begun ⟨S,w⟩ H args:=by
  refine ⟨hH.len.symm,hH.bel,?_⟩
  rw [AV.bels_iff]
  intro v hv'
  obtain ⟨j,hj⟩:=List.mem_iff_getElem?.1 hv'
  rw [hH.len]
  exact (hv.2 j v _ hj (Array.getElem?_eq_getElem Yo)).bel
 refine wp_mono (h ⟨S,w⟩ hbg S _ w hc (Ext.refl S w)) ?_
 intro e a' w' ⟨x,env',H',S',q,r,c,k⟩
 cases r with
 | nrm =>
  obtain ⟨vs,M,h1,h2,h3⟩:=q
  obtain ⟨u,k1,k2⟩:=q77 c hr h1
  obtain ⟨S2,m1,m2,m3⟩:=h2.ok c.heap k2 k
  exact ⟨c.defers,u,k1,_,M,S2,h3,.ret m2,m1,m3⟩
 | ret =>
  obtain ⟨vs,M,h1,h2,h3⟩:=q
  obtain ⟨u,k1,k2⟩:=q77 c hr h1
  obtain ⟨S2,m1,m2,m3⟩:=h2.ok c.heap k2 k
  exact ⟨c.defers,u,k1,_,M,S2,h3,.ret m2,m1,m3⟩
 | brk=>exact q.elim
 | pan hv =>
  obtain ⟨M,h2,h3⟩:=q
  obtain ⟨S2,m1,m2,m3⟩:=h2.ok c.heap hv k
  exact ⟨c.defers,_,M,S2,h3,.pan m2,m1,m3⟩
theorem qnm {t e:TypeId} {x y:Operand} {g m n:Nat} {k:IntKind} {sz:Nat} {agg:Bool} [ArI P t m e] [TyI P e agg sz] (hx:aev env x = .raw (.pointer (some ⟨g,0,none⟩))) (hy:aev env y = .int k (n:Int)) (h1:n<m) :
  V1 P N (.indexAddr t x y) ty env H (.raw (.pointer (some ⟨g,n * sz,none⟩))):=by
 intro S a w hc
 have hv:=hc.ev x
 rw [hx] at hv
 generalize he:a.eval x=u at hv
 cases hv
 refine ⟨.pointer (some ⟨g,n * sz,none⟩),fun _ _ _ _=>?_,.raw⟩
 simp [execOp,he,q1d hc hy,qdh (P:=P) (t:=t) (e:=e) (sz:=sz) (agg:=agg) (n:=(n:Int)) (by omega) (by omega),q44]
theorem qrl {K:Know} {t:TypeId} {x:Operand} {g j sz:Nat} {v:AV} {u:Value} [TyI P t false sz] (hx:aev env x = .raw (.pointer (some ⟨g,j,none⟩))) (hk:get env KT=K.av) (hg:K.g=g) (hu:K.tab[j]?=some u) (hv:∀ O w S,VR O w S v u):V1 P N (.load t x) ty env H v:=by
 intro S a w hc
 have hkn:=hc.env KT
 rw [hk] at hkn
 have hcell:=hkn.kn.2.2.1 j u hu
 rw [hg] at hcell
 have h:=hc.ev x
 rw [hx] at h
 generalize he:a.eval x=y at h
 cases h
 exact ⟨u,fun _ _ _ _=>by simp [execOp,he,Instr.loadAt,Instr.sureAddr,q8m (P:=P) (t:=t) hcell],hv _ _ _⟩
end
end Go.Av
namespace Go.Av
open Go.Proofs
theorem q4j {P:Program} {N:Nat} {env:Env} {H:qf} {ty:TypeId} {t e:TypeId} {x y:Operand} {id g i j m n:Nat} {k:IntKind} {sz:Nat} {agg:Bool} {o:AObj} [ArI P t m e] [TyI P e agg sz] (hx:aev env x = .pt id g i j) (hid:H[id]?=some o) (hg:o.gen=g)
  (hy:aev env y = .int k (n:Int)) (h1:n<m):V1 P N (.indexAddr t x y) ty env H (.pt id g i (j+n * sz)):=q6a (agg:=agg) (e:=e) hx hid hg hy (by omega) (by omega)
theorem p64 {k:Nat} (h:k<64):2 ^ k<18446744073709551616:=Nat.pow_lt_pow_right (a:=2) (n:=64) (by decide) h
def KD:Know:=⟨1,Lib.deBruijn64tab.map fun n:Nat=>Value.int .u8 (n:Int)⟩
theorem q14a {q k:Nat} (hi:q<64) (h:Lib.deBruijn64tab.getD q 0=k):KD.tab[q]?=some (.int .u8 (k:Int)):=by
 have hlen:Lib.deBruijn64tab.length=64:=rfl
 unfold KD
 dsimp only
 generalize Lib.deBruijn64tab=l at h hlen
 rw [List.getElem?_map]
 cases hq:l[q]? with
 | none=>rw [List.getElem?_eq_none_iff] at hq;omega
 | some v =>
  rw [List.getD_eq_getElem?_getD,hq] at h
  subst h
  rfl
theorem q117 (x:Nat) (hx:x<18446744073709551616) (H:qf):ACT Tryz.prog KD 258 [.int .u64 (x:Int)] H (Ret (.int .i64 ((Lib.ctz 64 x:Nat):Int)) H):=by
 refine ACT.body (N:=14) [.tmp 2] Tryz.func258 rfl rfl rfl (Nat.le_of_ble_eq_true rfl) fun B hB=>?_
 refine Z5 ?_
 refine Z17 ?_
 refine qa rfl (fun hc=>?_) (fun hc=>?_)
 ·refine Zz ?_
  rw [show Lib.ctz 64 x=64 by simp at hc;simp [Lib.ctz,hc]]
  exact Zb
 ·have hx0:x≠0:=by simp at hc;omega
  obtain ⟨hlow,hk⟩:=Lib.lowest_bit 64 x hx0 hx
  generalize Lib.ctz 64 x=k at hlow hk
  obtain ⟨hi,htab⟩:=Lib.deBruijn64_at k hk
  have hlt:2 ^ k<18446744073709551616:=p64 hk
  generalize hm:2 ^ k=m at hlow hi htab hlt
  generalize hq:m * 285870213051353865 % 18446744073709551616 / 288230376151711744=q at hi htab
  have hu:=q14a hi htab
  refine Z26 ?_
  refine ao1 (by decide) (q116 (r:=((18446744073709551616-x:Nat):Int)) rfl Y16) ?_
  refine ao1 (by decide) (qua (r:=(m:Int)) rfl rfl (by rw [qic x _ hx (by omega)];rw [show (18446744073709551616:Nat)=2 ^ 64 from rfl,hlow])) ?_
  refine ao1 (by decide) (qjp (r:=((m * 285870213051353865 % 18446744073709551616:Nat):Int)) rfl rfl Y16) ?_
  refine ao1 (by decide) (qmh (r:=(q:Int)) rfl rfl (by omega) (by rw [← hq,show ((2:Int) ^ min (58:Int).toNat IntKind.u64.bits)=((288230376151711744:Nat):Int) from rfl,Int.fdiv_eq_ediv_of_nonneg _ (by omega)];exact (Int.natCast_ediv _ _).symm)) ?_
  refine ao1 (by decide) (qnm (n:=q) rfl rfl (by omega)) ?_
  refine ao1 (by decide) (qrl (K:=KD) (v:=.int .u8 (k:Int)) rfl rfl rfl (by rw [Nat.mul_one];exact hu) (fun _ _ _=>.int)) ?_
  refine ao1 (by decide) (qp (r:=(k:Int)) rfl (qd (by omega) (by omega))) ?_
  exact Zc
abbrev q3s (i:Int):List AV:=[.int .i64 i]
theorem q3a (n:Nat) (l:List Int):∀ r∈l.map q3s,AV.bels n r=true:=q5a (e:=q3s) (fun _=>rfl) l
theorem qyi (l:List Int):∀ r∈l.map q3s,r.length=1:=q52 (e:=q3s) (n:=1) (fun _=>rfl) l
theorem qjc (n:Nat) (w:Nat→Nat):AV.bels n (eWn w)=true:=by rw [AV.bels_iff];intro v hv;simp only [eWn,List.mem_map] at hv;obtain ⟨i,_,rfl⟩:=hv;rfl
theorem q6y (w:Nat→Nat):(eWn w).length=4:=by simp [eWn]
theorem eW0 (l:List Int):eWn (wd (q53 l 0))=[.int .u64 0,.int .u64 0,.int .u64 0,.int .u64 0]:=by
 rw [qu7];simp [eWn,q11v,List.range_succ]
def pof (l:List Int):Nat→Nat:=wd (q53 l (okn l))
theorem q13x (l:List Int) (hl:l.length≤9223372036854775807) (H:qf):AC Tryz.prog 120 [.pl (l.map q3s)] H (Ret (.tup [.agg (eWn (pof l)),.bool (sok l)]) H):=by
 refine AC.body (N:=34) [.cell 2 166,.tmp 3] Tryz.func120 rfl rfl rfl (Nat.le_of_ble_eq_true rfl) fun B hB=>?_
 refine Z2 ?_
 refine Z77 ?_
 refine Z1p ?_
 refine Z78 ?_
 refine Z2 ?_
 refine Z77 ?_
 refine qe ?_
 refine Z79 ?_
 refine Z7c ?_
 refine qm (G:=Nat) (fun k=>k≤l.length∧∀ i,i<k→okB l i=true) (fun k=>[(2,.pt (Lid H.length 0) 0 0 0),(4,.pt (Lid H.length 1) 0 0 0),(5,.int .i64 (quw l k)),(8,.pl (l.map q3s)),(9,.int .i64 (l.length:Int)),(10,.int .i64 (k:Int))]) (fun k=>H++[⟨0,4,[[.int .u64 0,.int .u64 0,.int .u64 0,.int .u64 0]]⟩,⟨0,4,[eWn (wd (q53 l k))]⟩]) (fun k=>l.length-k) 0 ⟨Nat.zero_le _,fun i hi=>by omega⟩ Y8 (.inl (by rw [eW0])) ?_
 rintro k ⟨hk,hno⟩
 refine Z43 ?_
 refine qa rfl (fun hc=>?_) (fun hc=>?_)
 ·have hlt:k<l.length:=by simpa using hc
  obtain ⟨x,hx,hxl⟩:=qo hlt
  have hr:=ql q3s hx
  have hok:=qxm hx hno
  refine Z47 ?_
  refine Za ?_
  refine qn 20 (.bool (!okB l k)) ?_ ?_
  ·refine Z2d ?_
   refine Zi ?_
   refine qb rfl rfl (fun hg3=>?_) (fun hg3=>?_)
   ·refine Z2u ?_
    refine Zm ?_
    exact Z4a
   ·refine Zj ?_
    refine Z4b ?_
    refine Zr ?_
    exact Z4c
  refine Z1 ?_
  refine qa rfl (fun hc=>?_) (fun hc=>?_)
  ·refine Z37 ?_
   refine Z7e ?_
   refine Z7f ?_
   refine Z1 ?_
   rw [qwk hlt Y1y,show wd (q53 l k)=pof l by rw [pof,q12z hlt hno Y1y]]
   exact Z7g
  ·have hokk:okB l k=true:=by simpa using hc
   obtain ⟨h0,h256⟩:=q8j hx hokk
   obtain ⟨n,rfl⟩:∃ n:Nat,x=n:=⟨x.toNat,by omega⟩
   have hn4:n / 64<4:=by omega
   have hp:2 ^ (n % 64)<18446744073709551616:=p64 (by omega)
   have hcell:(eWn (wd (q53 l k)))[0+n / 64 * 1]?=some (.int .u64 ((wd (q53 l k) (n / 64):Nat):Int)):=by rw [Nat.zero_add,Nat.mul_one];exact q8n _ hn4
   have hlast:quw l (k+1)=(n:Int):=by rw [quw,if_neg (by omega),Nat.add_sub_cancel,hx];rfl
   have q5q:(eWn (wd (q53 l k))).take (0+n / 64 * 1)++[AV.int .u64 ((wd (q53 l k) (n / 64) ||| 2 ^ (n % 64):Nat):Int)]++(eWn (wd (q53 l k))).drop (0+n / 64 * 1+1)=eWn (wd (q53 l (k+1))):=by
    rw [Nat.zero_add,Nat.mul_one,que _ hn4,qv2 hx]
    refine qem fun j _=>?_
    rw [q131]
    split<;>simp_all
   refine Z1v ?_
   refine qdw mixed (some 9) 1 ?_
   refine Z7h ?_
   refine aq0 1 rfl Y1v (by decide) (fun _=>q130 (r:=((n / 64:Nat):Int)) rfl rfl (by omega) (qd (n:=((n / 64:Nat):Int)) (by omega) (by omega))) ?_
   refine aqr 2 rfl Y1v (by decide) (fun G hG=>q4j rfl (lk rfl hG) rfl rfl hn4) ?_
   refine aqr 3 rfl Y1v (by decide) (fun G hG=>qh (v:=.int .u64 _) rfl (lk rfl hG) rfl rfl hcell) ?_
   refine Z1k ?_
   refine aq0 5 rfl Y1v (by decide) (fun _=>qrt (r:=((n % 64:Nat):Int)) rfl rfl (by omega) rfl) ?_
   refine aq0 6 rfl Y1v (by decide) (fun _=>quf (r:=((2 ^ (n % 64):Nat):Int)) rfl rfl (by omega) (by rw [show min ((n % 64:Nat):Int).toNat IntKind.u64.bits=n % 64 by show min (n % 64) 64=_;omega,Int.one_mul];rw [show ((2:Int) ^ (n % 64))=((2 ^ (n % 64):Nat):Int) by simp];exact q4h _ hp)) ?_
   refine aq0 7 rfl Y1v (by decide) (fun _=>o_or (r:=((wd (q53 l k) (n / 64) ||| 2 ^ (n % 64):Nat):Int)) rfl rfl (qo6 _ _ (qdn _ _) hp)) ?_
   refine aqr 8 rfl Y1v (by decide) (fun G hG=>q4j rfl (lk rfl hG) rfl rfl hn4) ?_
   refine aqs 9 rfl Y1v Y17 Y21 (q1i (sz:=1) (v:=.int .u64 _) (r':=eWn (wd (q53 l (k+1)))) rfl rfl rfl rfl rfl rfl rfl rfl (by show _≤4;omega) q5q) ?_
   refine Z7i ?_
   refine Z5s ?_
   refine Z4f ?_
   refine ⟨k+1,by omega,⟨by omega,fun i hi=>?_⟩,by rw [hlast];exact Y8,.refl _ _⟩
   rcases Nat.lt_or_eq_of_le (Nat.le_of_lt_succ hi) with h | h
   ·exact hno i h
   ·subst h;exact hokk
 ·have:k=l.length:=by simp at hc;omega
  subst this
  refine Z37 ?_
  refine Z7e ?_
  refine Z7f ?_
  refine Z1 ?_
  rw [qow hno,show wd (q53 l l.length)=pof l by rw [pof,qcp hno]]
  exact Z7g
theorem q10d {l:List Int} (h:sok l=true):pof l=wd (inl l):=by
 rw [pof,qcp fun i hi=>q6u h hi,qb4]
theorem qaz (l:List Int) (hl:l.length≤9223372036854775807) (H:qf):AC Tryz.prog 74 [.pl (l.map q3s)] H (Ret (.bool (sok l)) H):=by
 refine AC.body (N:=11) [.tmp 2] Tryz.func74 rfl rfl rfl (Nat.le_of_ble_eq_true rfl) fun B hB=>?_
 refine Z1q ?_
 refine Z3h ?_
 refine Z7j ?_
 refine Z7m ?_
 refine Z77 ?_
 refine Z7e ?_
 refine Z7n ?_
 refine Z29 ?_
 exact Z1s
theorem qyy (a b:List Int) (ha:a.length≤9223372036854775807) (hb:b.length≤9223372036854775807) (H:qf):AC Tryz.prog 189 [.pl (a.map q3s),.pl (b.map q3s)] H (Ret (.tup [.agg (eWn (pof a)),.agg (eWn (pof b)),.bool (sok a&&sok b)]) H):=by
 refine AC.body (N:=27) [.cell 4 166,.cell 5 166,.tmp 6] Tryz.func189 rfl rfl rfl (Nat.le_of_ble_eq_true rfl) fun B hB=>?_
 refine Z2 ?_
 refine Z77 ?_
 refine Z77 ?_
 refine Z1p ?_
 try dsimp only [List.length_nil,put,List.nil_append,List.length_cons,Nat.reduceAdd,List.cons_append]
 refine Z3h ?_
 refine Z7j ?_
 refine Z7m ?_
 refine Z77 ?_
 refine Z7e ?_
 refine Z7o ?_
 refine Z3h ?_
 refine Z7j ?_
 refine Z7m ?_
 refine Z77 ?_
 refine Z7e ?_
 refine Z7o ?_
 have hbel:∀ n:Nat,(AV.tup [.agg (eWn (pof a)),.agg (eWn (pof b)),.bool (sok a&&sok b)]).bel n=true:=by intro n;simp [AV.bel,AV.bels,qjc]
 refine Z1 ?_
 refine q100 mixed none 2 3 ?_
 refine aqr2 0 rfl Y1v (by decide) (fun G hG1 hG2=>q1m rfl (lk rfl hG1) rfl rfl (q6y _)) ?_
 refine aqr2 1 rfl Y1v (by decide) (fun G hG1 hG2=>q1m rfl (lk rfl hG2) rfl rfl (q6y _)) ?_
 refine Z7p ?_
 refine Z7q ?_
 refine q13 (g:=24) rfl (fun hg3=>?_) (fun hg3=>?_)
 ·refine q2s (g:=24) 4 rfl Y1v (by decide) rfl rfl (fun _=>qk (v:=.bool _) rfl) ?_
  refine Z7r ?_
  refine Z7s ?_
  refine Z7t ?_
  refine Z7u ?_
  refine Z7v ?_
  refine Z5t ?_
  rw [hg3] at hbel ⊢
  exact Z7w
 ·refine q17 (g:=24) 4 rfl Y1v (by decide) rfl rfl rfl ?_
  refine Z7x ?_
  refine Z7s ?_
  refine Z7t ?_
  refine Z7u ?_
  refine Z7v ?_
  refine Z5t ?_
  rw [hg3] at hbel ⊢
  exact Z7w
theorem qhs (f:Nat→Bool):((List.range 4).all fun k=>wd f k == 0)=decide (qgd f=[]):=by
 rw [Bool.eq_iff_iff,List.all_eq_true,decide_eq_true_eq,qgd,List.map_eq_nil_iff,List.filter_eq_nil_iff]
 simp only [List.mem_range,beq_iff_eq,qrd]
 constructor
 ·intro h n hn
  have:=h (n / 64) (by omega) (n % 64) (by omega)
  rw [show 64 * (n / 64)+n % 64=n by omega] at this
  simp [this]
 ·intro h k hk j hj
  have:=h (64 * k+j) (by omega)
  simpa using this
theorem q5b {p:Nat→Bool} (k:Nat):(List.range (k+1)).all p=((List.range k).all p&&p k):=by
 rw [List.range_succ,List.all_append];simp
theorem qzn (a b:List Int) (ha:a.length≤9223372036854775807) (hb:b.length≤9223372036854775807) (H:qf):AC Tryz.prog 197 [.pl (a.map q3s),.pl (b.map q3s)] H (Ret (.bool (q32 a b)) H):=by
 refine AC.body (N:=32) [.tmp 4] Tryz.func197 rfl rfl rfl (Nat.le_of_ble_eq_true rfl) fun B hB=>?_
 refine Z1q ?_
 refine Z7y ?_
 refine Z7z ?_
 refine Z7l ?_
 refine Z7k ?_
 refine Z5y ?_
 refine Z77 ?_
 refine Z77 ?_
 refine Z7d ?_
 refine Z7e ?_
 refine Z80 ?_
 refine Z11 ?_
 refine Z3l ?_
 refine qm (G:=Nat) (fun k=>k≤4) (fun k=>[(5,.pt (Lid H.length 0) 0 0 0),(6,.pt (Lid H.length 1) 0 0 0),(7,.bool (sok a&&sok b&&(List.range k).all fun i=>wd (fun n=>q53 a (okn a) n&&!q53 b (okn b) n) i == 0)),(16,.int .i64 (k:Int))]) (fun _=>H++[⟨0,4,[eWn (pof a)]⟩,⟨0,4,[eWn (pof b)]⟩]) (fun k=>4-k) 0 (Nat.zero_le _) (by simp only [List.range_zero,List.all_nil,Bool.and_true];exact Y8) (Fit.refl _ _) ?_
 intro k hk
 refine Z43 ?_
 refine qa rfl (fun hc=>?_) (fun hc=>?_)
 ·have hk4:k<4:=by simp at hc;omega
  have hx:(eWn (pof a))[0+k * 1]?=some (.int .u64 ((wd (q53 a (okn a)) k:Nat):Int)):=by rw [Nat.zero_add,Nat.mul_one];exact q8n _ hk4
  have hy:(eWn (pof b))[0+k * 1]?=some (.int .u64 ((wd (q53 b (okn b)) k:Nat):Int)):=by rw [Nat.zero_add,Nat.mul_one];exact q8n _ hk4
  refine Z1v ?_
  refine q1n 7 (.bool (sok a&&sok b&&(List.range (k+1)).all fun i=>wd (fun n=>q53 a (okn a) n&&!q53 b (okn b) n) i == 0)) ?_ ?_
  ·refine Z83 ?_
   refine Z84 ?_
   refine Z85 ?_
   refine q13 (g:=20) rfl (fun hg1=>?_) (fun hg1=>?_)
   ·refine Z86 ?_
    refine Z87 ?_
    refine Z88 ?_
    refine Z89 ?_
    refine Z8a ?_
    refine Z8b ?_
    refine q2s (g:=20) 8 rfl Y1v (by decide) rfl rfl (fun _=>qob (r:=((wd (fun n=>q53 a (okn a) n&&!q53 b (okn b) n) k:Nat):Int)) rfl rfl (qhu _ _ _)) ?_
    refine Z8c ?_
    refine Z8d ?_
    refine Z8e ?_
    exact q1y Y1v Y1f (Out.mk (by (refine congrArg AV.bool ?_;(rw [q5b];generalize ((List.range k).all fun i=>wd (fun n=>q53 a (okn a) n&&!q53 b (okn b) n) i == 0)=q at *;generalize wd (fun n=>q53 a (okn a) n&&!q53 b (okn b) n) k=m at *;rw [← Bool.and_assoc];grind))) Yb)
   ·refine Z8f ?_
    refine Z8g ?_
    refine Z8h ?_
    refine Z8i ?_
    refine Z8j ?_
    refine Z8k ?_
    refine Z8l ?_
    refine Z8m ?_
    refine Z8n ?_
    refine Z8e ?_
    exact q1y Y1v Y1f (Out.mk (by (refine congrArg AV.bool ?_;(rw [q5b];generalize ((List.range k).all fun i=>wd (fun n=>q53 a (okn a) n&&!q53 b (okn b) n) i == 0)=q at *;generalize wd (fun n=>q53 a (okn a) n&&!q53 b (okn b) n) k=m at *;rw [← Bool.and_assoc];(simp_all;done)))) Yb)
  refine Z4f ?_
  exact ⟨k+1,by omega,by omega,Y8,.refl _ _⟩
 ·have:k=4:=by simp at hc;omega
  subst this
  rw [qhs]
  refine Z29 ?_
  refine Ze ?_
  rw [show (sok a&&sok b&&decide (qgd (fun n=>q53 a (okn a) n&&!q53 b (okn b) n)=[]))=q32 a b by
   unfold q32
   cases h1:sok a with
   | false=>simp
   | true =>
    cases h2:sok b with
    | false=>simp
    | true=>rw [qcp fun i hi=>q6u h1 hi,qcp fun i hi=>q6u h2 hi,qb4,qb4]]
  exact Zb
theorem qtj (a b:List Int) (ha:a.length≤9223372036854775807) (hb:b.length≤9223372036854775807) (H:qf):AC Tryz.prog 154 [.pl (a.map q3s),.pl (b.map q3s)] H (Ret (.bool (qkp a b)) H):=by
 refine AC.body (N:=32) [.tmp 4] Tryz.func154 rfl rfl rfl (Nat.le_of_ble_eq_true rfl) fun B hB=>?_
 refine Z1q ?_
 refine Z7y ?_
 refine Z7z ?_
 refine Z7l ?_
 refine Z7k ?_
 refine Z5y ?_
 refine Z77 ?_
 refine Z77 ?_
 refine Z7d ?_
 refine Z7e ?_
 refine Z80 ?_
 refine Z11 ?_
 refine Z3l ?_
 refine qm (G:=Nat) (fun k=>k≤4) (fun k=>[(5,.pt (Lid H.length 0) 0 0 0),(6,.pt (Lid H.length 1) 0 0 0),(7,.bool (sok a&&sok b&&(List.range k).all fun i=>wd (fun n=>q53 a (okn a) n&&q53 b (okn b) n) i == 0)),(16,.int .i64 (k:Int))]) (fun _=>H++[⟨0,4,[eWn (pof a)]⟩,⟨0,4,[eWn (pof b)]⟩]) (fun k=>4-k) 0 (Nat.zero_le _) (by simp only [List.range_zero,List.all_nil,Bool.and_true];exact Y8) (Fit.refl _ _) ?_
 intro k hk
 refine Z43 ?_
 refine qa rfl (fun hc=>?_) (fun hc=>?_)
 ·have hk4:k<4:=by simp at hc;omega
  have hx:(eWn (pof a))[0+k * 1]?=some (.int .u64 ((wd (q53 a (okn a)) k:Nat):Int)):=by rw [Nat.zero_add,Nat.mul_one];exact q8n _ hk4
  have hy:(eWn (pof b))[0+k * 1]?=some (.int .u64 ((wd (q53 b (okn b)) k:Nat):Int)):=by rw [Nat.zero_add,Nat.mul_one];exact q8n _ hk4
  refine Z1v ?_
  refine q1n 7 (.bool (sok a&&sok b&&(List.range (k+1)).all fun i=>wd (fun n=>q53 a (okn a) n&&q53 b (okn b) n) i == 0)) ?_ ?_
  ·refine Z83 ?_
   refine Z84 ?_
   refine Z85 ?_
   refine q13 (g:=20) rfl (fun hg1=>?_) (fun hg1=>?_)
   ·refine Z86 ?_
    refine Z87 ?_
    refine Z88 ?_
    refine Z89 ?_
    refine Z8a ?_
    refine Z8b ?_
    refine q2s (g:=20) 8 rfl Y1v (by decide) rfl rfl (fun _=>qua (r:=((wd (fun n=>q53 a (okn a) n&&q53 b (okn b) n) k:Nat):Int)) rfl rfl (by rw [qic _ _ (qdn _ _) (qdn _ _),q10h])) ?_
    refine Z8c ?_
    refine Z8d ?_
    refine Z8e ?_
    exact q1y Y1v Y1f (Out.mk (by (refine congrArg AV.bool ?_;(rw [q5b];generalize ((List.range k).all fun i=>wd (fun n=>q53 a (okn a) n&&q53 b (okn b) n) i == 0)=q at *;generalize wd (fun n=>q53 a (okn a) n&&q53 b (okn b) n) k=m at *;rw [← Bool.and_assoc];grind))) Yb)
   ·refine Z8f ?_
    refine Z8g ?_
    refine Z8h ?_
    refine Z8i ?_
    refine Z8j ?_
    refine Z8k ?_
    refine Z8l ?_
    refine Z8m ?_
    refine Z8n ?_
    refine Z8e ?_
    exact q1y Y1v Y1f (Out.mk (by (refine congrArg AV.bool ?_;(rw [q5b];generalize ((List.range k).all fun i=>wd (fun n=>q53 a (okn a) n&&q53 b (okn b) n) i == 0)=q at *;generalize wd (fun n=>q53 a (okn a) n&&q53 b (okn b) n) k=m at *;rw [← Bool.and_assoc];(simp_all;done)))) Yb)
  refine Z4f ?_
  exact ⟨k+1,by omega,by omega,Y8,.refl _ _⟩
 ·have:k=4:=by simp at hc;omega
  subst this
  rw [qhs]
  refine Z29 ?_
  refine Ze ?_
  rw [show (sok a&&sok b&&decide (qgd (fun n=>q53 a (okn a) n&&q53 b (okn b) n)=[]))=qkp a b by
   unfold qkp
   cases h1:sok a with
   | false=>simp
   | true =>
    cases h2:sok b with
    | false=>simp
    | true=>rw [qcp fun i hi=>q6u h1 hi,qcp fun i hi=>q6u h2 hi,qb4,qb4]]
  exact Zb
structure LS where
 acc:List Int
 x:Nat
set_option maxHeartbeats 0 in
theorem qqb (f:Nat→Bool) (H:qf):ACT Tryz.prog KD 246 [.agg (eWn (wd f))] H (Ret (.pl ((qgd f).map q3s)) H):=by
 have hbel:∀ (n:Nat) (g m:Nat) (l:List Int),∀ o∈[AObj.mk 0 4 [eWn (wd f)],AObj.mk g 1 (l.map q3s)],∀ r∈o.rows,AV.bels n r=true:=by
  intro n g m l o ho r hr
  simp only [List.mem_cons,List.not_mem_nil,or_false] at ho
  rcases ho with rfl | rfl
  ·simp only [List.mem_singleton] at hr;subst hr;exact qjc _ _
  ·exact q3a _ _ r hr
 refine ACT.body (N:=27) [.tmp 2] Tryz.func246 rfl rfl rfl (Nat.le_of_ble_eq_true rfl) fun B hB=>?_
 refine Z2 ?_
 refine ao2 Y1o (q8v (sz:=4) (v:=.agg _) rfl rfl rfl (q6y _) (by decide) rfl) ?_
 refine Z3d ?_
 refine qe ?_
 refine Z2h ?_
 refine Z3m ?_
 refine q1v (k:=1) 3 1 rfl (by decide) rfl ?_
 refine q16 ?_
 refine Z8o ?_
 refine Z8 ?_
 refine Z8q ?_
 refine Z1d ?_
 refine qm (G:=Nat) (fun i=>i≤4) (fun i=>[(KT,KD.av),(3,.sl (Lid H.length 1) (qr6 f i).length 0 (qr6 f i).length (qr6 f i).length),(6,.agg (eWn (wd f))),(7,.int .i64 (i:Int))]) (fun i=>H++[⟨0,4,[eWn (wd f)]⟩,⟨(qr6 f i).length,1,(qr6 f i).map q3s⟩]) (fun i=>4-i) 0 (Nat.zero_le _) Y8 (Fit.refl _ _) ?_
 intro i hi
 refine Z43 ?_
 refine qa rfl (fun hc=>?_) (fun hc=>?_)
 ·have hi4:i<4:=by simp at hc;omega
  have hcell:(eWn (wd f))[((i:Nat):Int).toNat * 1]?=some (.int .u64 ((wd f i:Nat):Int)):=by show (eWn (wd f))[i * 1]?=_;rw [Nat.mul_one];exact q8n _ hi4
  have hstep:=qvl f i
  have hslen:=qoh f (i+1)
  refine Z11 ?_
  refine ao1 (by decide) (qz3 (sz:=1) (v:=.int .u64 _) rfl rfl (by omega) (by omega) hcell) ?_
  refine Z15 ?_
  refine Z1d ?_
  refine qm (G:=LS) (fun s=>s.x<18446744073709551616∧s.acc++(bl s.x).map (fun j:Nat=>((64 * i+j:Nat):Int))=qr6 f (i+1)) (fun s=>[(KT,KD.av),(3,.sl (Lid H.length 1) s.acc.length 0 s.acc.length s.acc.length),(4,.int .i64 (i:Int)),(5,.int .u64 (s.x:Int)),(6,.agg (eWn (wd f))),(7,.int .i64 (i:Int))]) (fun s=>H++[⟨0,4,[eWn (wd f)]⟩,⟨s.acc.length,1,s.acc.map q3s⟩]) (fun s=>s.x) ⟨qr6 f i,wd f i⟩ ⟨qdn f i,hstep.symm⟩ Y8 (Fit.refl _ _) ?_
  rintro ⟨acc,x⟩ ⟨hx64,hacc⟩
  simp only at hx64 hacc ⊢
  have hal:acc.length≤256:=by
   have:=congrArg List.length hacc
   rw [List.length_append] at this
   omega
  refine Z8r ?_
  refine qa rfl (fun hc=>?_) (fun hc=>?_)
  ·have hx0:x≠0:=by simp at hc;omega
   have hb:=q12o hx0 hx64
   have hlt:=qm5 hx0
   obtain ⟨hk,_⟩:=qx4 hx0 hx64
   refine Z8u ?_
   refine ao1 (by decide) (qjp (r:=((64 * i:Nat):Int)) rfl rfl (by rw [show (64:Int) * (i:Int)=((64 * i:Nat):Int) by omega];exact qd (by omega) (by omega))) ?_
   refine Z8 ?_
   refine ao2 Y1o (V2.callT (q117 x hx64 _) rfl rfl) ?_
   refine ao1 (by decide) (q20 (r:=((64 * i+Lib.ctz 64 x:Nat):Int)) rfl rfl (by rw [show ((64 * i:Nat):Int)+((Lib.ctz 64 x:Nat):Int)=((64 * i+Lib.ctz 64 x:Nat):Int) by omega];exact qd (by omega) (by omega))) ?_
   refine Z8v ?_
   refine Z8z ?_
   rw [show (acc.map q3s).take acc.length=acc.map q3s from List.take_of_length_le (by simp)]
   refine Z26 ?_
   refine ao1 (by decide) (q3e (r:=((x-1:Nat):Int)) rfl rfl (qzw x hx0 hx64)) ?_
   refine ao1 (by decide) (qua (r:=((x &&& (x-1):Nat):Int)) rfl rfl (qic _ _ hx64 (by omega))) ?_
   refine Za ?_
   refine ⟨⟨acc++[((64 * i+Lib.ctz 64 x:Nat):Int)],x &&& (x-1)⟩,hlt,⟨by simp only;omega,?_⟩,by simp only [List.length_append,List.length_cons,List.length_nil];exact Y8,Fit.loc hB (by simp only [List.length_append,List.length_cons,List.length_nil,List.map_append,List.map_cons,List.map_nil];rfl) Y1 (hbel _ _ 0 _)⟩
   simp only
   rw [← hacc,hb,List.map_cons,List.append_assoc]
   rfl
  ·have hx0:x=0:=by simp at hc;omega
   subst hx0
   rw [q11g,List.map_nil,List.append_nil] at hacc
   subst hacc
   refine Z4f ?_
   exact ⟨i+1,by omega,by omega,Y8,Fit.refl _ _⟩
 ·have:i=4:=by simp at hc;omega
  subst this
  rw [qt6]
  refine Z91 ?_
  refine qr (ys:=(qgd f).map q3s) 2 rfl rfl rfl rfl Yn (by simp) (q3a 0 _) ?_
  exact Z92
theorem qqv (f g:Nat→Bool) (k:Nat) (H:qf):AC Tryz.prog 260 [.int .u64 (wd f k:Int),.int .u64 (wd g k:Int)] H (Ret (.int .u64 ((wd (fun n=>f n||g n) k:Nat):Int)) H):=by
 refine AC.body (N:=8) [.tmp 4] Tryz.func260 rfl rfl rfl (Nat.le_of_ble_eq_true rfl) fun B hB=>?_
 refine Z5 ?_
 refine Z26 ?_
 refine ao1 (by decide) (o_or (r:=((wd (fun n=>f n||g n) k:Nat):Int)) rfl rfl (by rw [qo6 _ _ (qdn _ _) (qdn _ _),q149])) ?_
 exact Zc
theorem qs4 (f g:Nat→Bool) (k:Nat) (H:qf):AC Tryz.prog 271 [.int .u64 (wd f k:Int),.int .u64 (wd g k:Int)] H (Ret (.int .u64 ((wd (fun n=>f n&&!g n) k:Nat):Int)) H):=by
 refine AC.body (N:=8) [.tmp 4] Tryz.func271 rfl rfl rfl (Nat.le_of_ble_eq_true rfl) fun B hB=>?_
 refine Z5 ?_
 refine Z26 ?_
 refine ao1 (by decide) (qob (r:=((wd (fun n=>f n&&!g n) k:Nat):Int)) rfl rfl (qhu _ _ _)) ?_
 exact Zc
set_option maxHeartbeats 0 in
theorem qmj (g:Nat) [FnI Tryz.prog g] (op:Bool→Bool→Bool) (hdo:∀ (f h:Nat→Bool) (k:Nat) (H:qf),AC Tryz.prog g [.int .u64 (wd f k:Int),.int .u64 (wd h k:Int)] H (Ret (.int .u64 ((wd (fun n=>op (f n) (h n)) k:Nat):Int)) H))
  (a b:List Int) (ha:a.length≤9223372036854775807) (hb:b.length≤9223372036854775807) (H:qf):ACT Tryz.prog KD 223 [.pl (a.map q3s),.pl (b.map q3s),.fn (.func g) [] []] H (Ret (.pl ((q88 op a b).map q3s)) H):=by
 refine ACT.body (N:=36) [.tmp 6] Tryz.func223 rfl rfl rfl (Nat.le_of_ble_eq_true rfl) fun B hB=>?_
 refine Z93 ?_
 refine Z7z ?_
 refine Z7l ?_
 refine Z7k ?_
 refine Z5y ?_
 refine Z77 ?_
 refine Z77 ?_
 refine Z7d ?_
 refine Z7e ?_
 refine Z80 ?_
 refine Z64 ?_
 refine qa rfl (fun hc=>?_) (fun hc=>?_)
 ·have hs:(sok a&&sok b)=false:=by cases h:(sok a&&sok b)<;>simp_all
  refine Z3m ?_
  refine q26 6 rfl ?_
  refine q2y ?_
  rw [show q88 op a b=[] by rw [q88,hs];rfl]
  exact Zb
 have hs:sok a=true∧sok b=true:=by simpa using hc
 rw [show q88 op a b=qgd (fun n=>op (inl a n) (inl b n)) by rw [q88,hs.1,hs.2];rfl,q10d hs.1,q10d hs.2]
 refine Z11 ?_
 refine Z3l ?_
 refine qm (G:=Nat) (fun k=>k≤4) (fun k=>[(KT,KD.av),(2,.fn (.func g) [] []),(7,.pt (Lid H.length 0) 0 0 0),(8,.pt (Lid H.length 1) 0 0 0),(20,.int .i64 (k:Int))]) (fun k=>H++[⟨0,4,[eWn (fun j=>if j<k then wd (fun n=>op (inl a n) (inl b n)) j else wd (inl a) j)]⟩,⟨0,4,[eWn (wd (inl b))]⟩]) (fun k=>4-k) 0 (Nat.zero_le _) Y8 (.inl (by simp)) ?_
 intro k hk
 refine Z43 ?_
 refine qa rfl (fun hc=>?_) (fun hc=>?_)
 ·have hk4:k<4:=by simp at hc;omega
  have hx:(eWn (fun j=>if j<k then wd (fun n=>op (inl a n) (inl b n)) j else wd (inl a) j))[0+k * 1]?=some (.int .u64 ((wd (inl a) k:Nat):Int)):=by
   rw [Nat.zero_add,Nat.mul_one,q8n _ hk4];simp
  have hy:(eWn (wd (inl b)))[0+k * 1]?=some (.int .u64 ((wd (inl b) k:Nat):Int)):=by rw [Nat.zero_add,Nat.mul_one];exact q8n _ hk4
  have q5q:(eWn (fun j=>if j<k then wd (fun n=>op (inl a n) (inl b n)) j else wd (inl a) j)).take (0+k * 1)++[AV.int .u64 ((wd (fun n=>op (inl a n) (inl b n)) k:Nat):Int)]++(eWn (fun j=>if j<k then wd (fun n=>op (inl a n) (inl b n)) j else wd (inl a) j)).drop (0+k * 1+1)=eWn (fun j=>if j<k+1 then wd (fun n=>op (inl a n) (inl b n)) j else wd (inl a) j):=by
   rw [Nat.zero_add,Nat.mul_one,que _ hk4]
   refine qem fun j _=>?_
   by_cases e:j=k
   ·subst e;simp
   ·rw [if_neg e]
    by_cases e2:j<k
    ·rw [if_pos e2,if_pos (by omega)]
    ·rw [if_neg e2,if_neg (by omega)]
  refine Z1v ?_
  refine q39 mixed (some 10) 2 ?_
  refine Z82 ?_
  refine Z7h ?_
  refine aq0 1 rfl Y1v (by decide) (fun _=>qk (v:=.fn _ _ _) rfl) ?_
  refine Z94 ?_
  refine aqp 3 rfl Y1v (by decide) (fun G=>q4j rfl (lk rfl rfl) rfl rfl hk4) ?_
  refine aqp 4 rfl Y1v (by decide) (fun G=>qh (v:=.int .u64 _) rfl (lk rfl rfl) rfl rfl hx) ?_
  refine Z1n ?_
  refine aqp 6 rfl Y1v (by decide) (fun G=>q4j rfl (lk rfl rfl) rfl rfl hk4) ?_
  refine aqp 7 rfl Y1v (by decide) (fun G=>qh (v:=.int .u64 _) rfl (lk rfl rfl) rfl rfl hy) ?_
  refine q8b 8 rfl Y1v (by decide) (fun _=>V2.callv (hdo (inl a) (inl b) k _) rfl rfl) ?_
  refine aqp 9 rfl Y1v (by decide) (fun G=>q4j rfl (lk rfl rfl) rfl rfl hk4) ?_
  refine aqs 10 rfl Y1v Y1f Y21 (q1i (sz:=1) (v:=.int .u64 _) (r':=eWn (fun j=>if j<k+1 then wd (fun n=>op (inl a n) (inl b n)) j else wd (inl a) j)) rfl rfl rfl rfl rfl rfl rfl rfl (by show _≤4;omega) q5q) ?_
  refine Z7i ?_
  refine Z7f ?_
  refine Z4f ?_
  exact ⟨k+1,by omega,by omega,Y8,.refl _ _⟩
 ·have:k=4:=by simp at hc;omega
  subst this
  rw [show eWn (fun j=>if j<4 then wd (fun n=>op (inl a n) (inl b n)) j else wd (inl a) j)=eWn (wd fun n=>op (inl a n) (inl b n)) from qem fun j hj=>if_pos hj]
  refine Z2 ?_
  refine Z8o ?_
  refine ao2 Y1o (V2.callT (qqb (fun n=>op (inl a n) (inl b n)) _) rfl rfl) ?_
  exact Z3r
theorem qja (a b:List Int) (ha:a.length≤9223372036854775807) (hb:b.length≤9223372036854775807) (H:qf):ACT Tryz.prog KD 251 [.pl (a.map q3s),.pl (b.map q3s)] H (Ret (.pl ((q88 (·||·) a b).map q3s)) H):=by
 refine ACT.body (N:=8) [.tmp 4] Tryz.func251 rfl rfl rfl (Nat.le_of_ble_eq_true rfl) fun B hB=>?_
 refine Z93 ?_
 refine ao2 Y1o (V2.callT (qmj 260 (·||·) (fun f h k H=>qqv f h k H) a b ha hb _) rfl rfl) ?_
 exact Z3r
theorem qxu (a b:List Int) (ha:a.length≤9223372036854775807) (hb:b.length≤9223372036854775807) (H:qf):ACT Tryz.prog KD 265 [.pl (a.map q3s),.pl (b.map q3s)] H (Ret (.pl ((q88 (fun x y=>x&&!y) a b).map q3s)) H):=by
 refine ACT.body (N:=8) [.tmp 4] Tryz.func265 rfl rfl rfl (Nat.le_of_ble_eq_true rfl) fun B hB=>?_
 refine Z93 ?_
 refine ao2 Y1o (V2.callT (qmj 271 (fun x y=>x&&!y) (fun f h k H=>qs4 f h k H) a b ha hb _) rfl rfl) ?_
 exact Z3r
def setP (f:Nat→Bool) (n:Nat):List Int:=((List.range n).filter f).map fun j:Nat=>(j:Int)
theorem qqn (f g:Nat→Bool) (k:Nat) (H:qf):AC Tryz.prog 224 [.int .u64 (wd f k:Int),.int .u64 (wd g k:Int)] H (Ret (.int .u64 ((wd (fun n=>f n&&g n) k:Nat):Int)) H):=by
 refine AC.body (N:=8) [.tmp 4] Tryz.func224 rfl rfl rfl (Nat.le_of_ble_eq_true rfl) fun B hB=>?_
 refine Z5 ?_
 refine Z26 ?_
 refine ao1 (by decide) (qua (r:=((wd (fun n=>f n&&g n) k:Nat):Int)) rfl rfl (by rw [qic _ _ (qdn _ _) (qdn _ _),q10h])) ?_
 exact Zc
theorem qp0 (a b:List Int) (ha:a.length≤9223372036854775807) (hb:b.length≤9223372036854775807) (H:qf):ACT Tryz.prog KD 194 [.pl (a.map q3s),.pl (b.map q3s)] H (Ret (.pl ((q88 (·&&·) a b).map q3s)) H):=by
 refine ACT.body (N:=8) [.tmp 4] Tryz.func194 rfl rfl rfl (Nat.le_of_ble_eq_true rfl) fun B hB=>?_
 refine Z93 ?_
 refine ao2 Y1o (V2.callT (qmj 224 (·&&·) (fun f h k H=>qqn f h k H) a b ha hb _) rfl rfl) ?_
 exact Z3r
theorem qqm (k u:Int) (H:qf):AC Tryz.prog 105 [.int .i64 k,.int .i64 u] H (Ret (.bool (qbs k u)) H):=by
 refine AC.body (N:=23) [.tmp 4] Tryz.func105 rfl rfl rfl (Nat.le_of_ble_eq_true rfl) fun B hB=>?_
 refine Z1q ?_
 refine Z11 ?_
 refine qe ?_
 refine Z4p ?_
 refine qa rfl (fun hc=>?_) (fun hc=>?_)
 ·have h1:k=1:=by simpa using hc
  refine Z11 ?_
  refine Z13 ?_
  rw [show qbs k u=(u == 0) by simp [qbs,h1];rfl]
  exact Zb
 have h1:¬ k=1:=by simpa using hc
 refine Z4p ?_
 refine qa rfl (fun hc=>?_) (fun hc=>?_)
 ·have h2:k=2:=by simpa using hc
  refine Z1 ?_
  refine qn 4 (.bool (qbs k u)) ?_ ?_
  ·refine Z57 ?_
   refine qb rfl rfl (fun hg2=>?_) (fun hg2=>?_)
   ·refine Z2u ?_
    refine Zn ?_
    exact qe (Out.mk (by (refine congrArg AV.bool ?_;(simp only [qbs] at *;(simp_all;done)))) Yb)
   ·refine Z58 ?_
    refine Z30 ?_
    exact qe (Out.mk (by (refine congrArg AV.bool ?_;(simp only [qbs] at *;grind))) Yb)
  exact Z21
 have h2:¬ k=2:=by simpa using hc
 refine Z2 ?_
 refine Z95 ?_
 refine Z96 ?_
 refine q3x ([(1,.int .i64 u),(18,.bool (decide (k=3)||decide (k=4)))]) (H++[]) ?_ ?_
 ·refine Z1 ?_
  refine qa rfl (fun hc=>?_) (fun hc=>?_)
  ·have h3:k=3:=by simpa using hc
   refine Z1 ?_
   refine q22 ?_ (.inl rfl)
   rw [show (decide (k=3)||decide (k=4))=(k == 3) by simp [h3]]
   exact Y8
  ·have h3:¬ k=3:=by simpa using hc
   refine q16 ?_
   refine Z95 ?_
   refine q22 ?_ (.inl rfl)
   rw [show (decide (k=3)||decide (k=4))=(k == 4) by simp [h3];rfl]
   exact Y8
 refine Z1 ?_
 refine qa rfl (fun hc=>?_) (fun hc=>?_)
 ·have h3:k=3∨k=4:=by simpa using hc
  refine Z11 ?_
  refine Z13 ?_
  rw [show qbs k u=(u == 2) by simp only [qbs];rw [Bool.eq_iff_iff];simp;omega]
  exact Zb
 ·have h3:¬ (k=3∨k=4):=by simpa using hc
  refine Zf ?_
  rw [show qbs k u=false by simp only [qbs];rw [Bool.eq_false_iff];simp;omega]
  exact Zb
def qbc (t:Thing):List Value:=[.int .i64 t.kind,.int .i64 t.up,.string t.tag]
theorem q9x (a b:Thing) (w:World):(Op.equalIn 10000 74 (.agg (qbc a).toArray) (.agg (qbc b).toArray)).run Tryz.prog w = .ok (decide (a=b)) w:=by
 have hS:Tryz.prog.underlying 74=some (.struct (Tryz.prog.fieldsOf 74)):=by kernel_rfl
 have hp:Tryz.prog.stoodInHeld 74=false:=by kernel_rfl
 rw [show (10000:Nat)=9999+1 from rfl,run_equalIn_agg w 9999 74 _ _ hS hp]
 have u3:=Tryz.underlying3
 have a3:=Tryz.isAgg3
 have z3:=Tryz.sizeOf3
 simp only [qbc,Program.fieldsOf,Tryz.underlying74]
 go_simp
 have ht:a.tag.toList=b.tag.toList↔a.tag=b.tag:=by have:=qom a.tag b.tag;rw [Bool.eq_iff_iff] at this;simpa using this
 simp only [ht]
 cases a;cases b
 simp only [Thing.mk.injEq]
 (repeat' split)<;>simp_all
theorem qh6 (g:List Thing):∀ r∈g.map qq,r.length=3:=q52 (e:=qq) (n:=3) (fun _=>rfl) g
theorem qr3 (n:Nat) (g:List Thing):∀ r∈g.map qq,AV.bels n r=true:=q5a (e:=qq) (fun _=>rfl) g
theorem qyu {g:List Thing} {i:Nat} {t:Thing} (h:g[i+1]?=some t):qng g i=(decide (0≤t.up)&&decide (t.up≤(i:Int))&&qbs t.kind (q4f g t.up.toNat)&&qgc t.tag&&(decide (t.tag=⟨#[]⟩)||decide (t.kind=2))):=by rw [qng,h]
theorem qnq (t0:Thing) (g1:List Thing):q2f (t0 :: g1)=(decide (g1.length+1≤256)&&decide (t0=qde)&&qnx (qng (t0 :: g1)) g1.length):=by
 simp [q2f]
set_option maxHeartbeats 0 in
theorem qa5 (g:List Thing) (H:qf) (hl:g.length≤9223372036854775807):AC Tryz.prog 59 [.pl (g.map qq)] H (Ret (.bool (q2f g)) H):=by
 refine AC.body (N:=66) [.tmp 2] Tryz.func59 rfl rfl rfl (Nat.le_of_ble_eq_true rfl) fun B hB=>?_
 refine Z1q ?_
 cases g with
 | nil =>
  refine Z1 ?_
  refine qn 19 (.bool true) ?_ ?_
  ·refine Z6c ?_
   refine Zv ?_
   refine qb rfl rfl (fun hg3=>?_) (fun hg3=>?_)
   ·refine Z2w ?_
    refine Z97 ?_
    exact Z10
   ·exfalso;simp at hg3
  refine Z1 ?_
  refine qa rfl (fun hc=>?_) (fun hc=>?_)
  ·exact Z4g
  ·simp at hc
 | cons t0 g1 =>
  have hr:((t0 :: g1).map qq)[(0:Int).toNat]?=some (qq t0):=rfl
  refine Z1 ?_
  refine qn 19 (.bool (!(decide (g1.length+1≤256)&&decide (t0=qde)))) ?_ ?_
  ·refine Z6c ?_
   refine Zv ?_
   refine qb rfl rfl (fun hg3=>?_) (fun hg3=>?_)
   ·refine Z2w ?_
    refine Z97 ?_
    exact Z98
   ·refine Z9b ?_
    refine Z2y ?_
    refine Z2z ?_
    refine qb rfl rfl (fun hg8=>?_) (fun hg8=>?_)
    ·refine Z97 ?_
     exact Z98
    ·refine Z99 ?_
     refine q1c rfl rfl (by decide) (q5d rfl rfl (by decide) hr rfl) ?_
     refine Z9c ?_
     refine q1c rfl rfl (by decide) (V1.up (q3g (cs:=[.int _ _,.int _ _,.str _]) rfl)) ?_
     refine q1c rfl rfl (by decide) (qnr (us:=qbc t0) (vs:=qbc qde) rfl rfl rfl rfl Y24 (q9x _ _)) ?_
     refine Zr ?_
     exact Z98
  clear hr
  rw [qnq]
  refine Z1 ?_
  refine qa rfl (fun hc=>?_) (fun hc=>?_)
  ·have hno:(decide (g1.length+1≤256)&&decide (t0=qde))=false:=by simpa only [Bool.not_eq_true'] using hc
   rw [hno,Bool.false_and]
   exact Z4g
  have hyes:(decide (g1.length+1≤256)&&decide (t0=qde))=true:=by simpa only [Bool.not_eq_false'] using hc
  rw [hyes,Bool.true_and]
  have hl2:g1.length+1≤256:=by simp at hyes;omega
  refine Z3h ?_
  refine ao1 (by decide) (qbv (ys:=g1.map qq) rfl (Bd.some rfl rfl) (by simp) (qh6 _) rfl) ?_
  refine Z40 ?_
  refine Z3l ?_
  refine qm (G:=Nat) (fun i=>i≤g1.length∧∀ k,k<i→qng (t0 :: g1) k=true) (fun i=>[(0,.pl ((t0 :: g1).map qq)),(21,.pl (g1.map qq)),(22,.int .i64 ((g1.map qq).length:Int)),(23,.int .i64 (i:Int))]) (fun _=>H++[]) (fun i=>g1.length-i) 0 ⟨Nat.zero_le _,fun k hk=>by omega⟩ Y8 (Fit.refl _ _) ?_
  rintro i ⟨hi,hno⟩
  refine Z43 ?_
  refine qa rfl (fun hc=>?_) (fun hc=>?_)
  ·have hlt:i<g1.length:=by simpa using hc
   obtain ⟨t,ht,htl⟩:=qo hlt
   have hr:=ql qq ht
   have hB2:=qyu (g:=t0 :: g1) (i:=i) (t:=t) ht
   refine Z9e ?_
   refine Z9f ?_
   refine Z3 ?_
   refine Z9g ?_
   refine Z9h ?_
   have hno0:=hno
   clear hr htl ht hno hc
   by_cases hup:0≤t.up∧t.up≤(i:Int)
   ·obtain ⟨u,hu,_⟩:=qo (l:=t0 :: g1) (k:=t.up.toNat) (by simp only [List.length_cons];omega)
    have hr1:=ql qq hu
    have hk:q4f (t0 :: g1) t.up.toNat=u.kind:=by rw [q4f,hu]
    rw [hk] at hB2
    clear hu hk hyes hl
    refine Z1 ?_
    refine q1n 64 (.bool (!qng (t0 :: g1) i)) ?_ ?_
    ·refine Z9j ?_
     refine Z9k ?_
     refine Z9l ?_
     refine Z9m ?_
     refine Z7q ?_
     refine q13 (g:=31) rfl (fun hg3=>?_) (fun hg3=>?_)
     ·refine Z9n ?_
      refine Z9o ?_
      refine Z9p ?_
      refine Z9q ?_
      refine Z9r ?_
      refine Z9s ?_
      refine Z9t ?_
      refine Z9u ?_
      refine Z9v ?_
      refine Z9w ?_
      refine Z9x ?_
      refine Z9y ?_
      refine Z9z ?_
      refine Za0 ?_
      refine Za1 ?_
      refine Za2 ?_
      refine Za3 ?_
      refine Za4 ?_
      refine Za5 ?_
      refine Za6 ?_
      refine Za7 ?_
      refine Za8 ?_
      refine Za9 ?_
      refine Zaa ?_
      refine Zai ?_
      exact Zaj
     ·refine Zak ?_
      refine Zal ?_
      refine Zam ?_
      refine Zan ?_
      refine Zao ?_
      refine Z9s ?_
      refine q13 (g:=37) rfl (fun hg9=>?_) (fun hg9=>?_)
      ·refine Z9t ?_
       refine Z9u ?_
       refine Z9v ?_
       refine Z9w ?_
       refine Z9x ?_
       refine Z9y ?_
       refine Z9z ?_
       refine Za0 ?_
       refine Za1 ?_
       refine Za2 ?_
       refine Za3 ?_
       refine Za4 ?_
       refine Za5 ?_
       refine Za6 ?_
       refine Za7 ?_
       refine Za8 ?_
       refine Za9 ?_
       refine Zaa ?_
       refine Zai ?_
       exact Zaj
      ·refine q2x (g:=37) 10 rfl Y1v (by decide) rfl rfl (fun G=>qc rfl (lk rfl rfl) rfl (by decide)) ?_
       refine q2x (g:=37) 11 rfl Y1v (by decide) rfl rfl (fun G=>qh (v:=.int _ _) rfl (lk rfl rfl) rfl rfl rfl) ?_
       refine q2s (g:=37) 12 rfl Y1v (by decide) rfl rfl (fun _=>qk (v:=.pl _) rfl) ?_
       refine q2x (g:=37) 13 rfl Y1v (by decide) rfl rfl (fun G=>qc rfl (lk rfl rfl) rfl (by decide)) ?_
       refine q2x (g:=37) 14 rfl Y1v (by decide) rfl rfl (fun G=>qh (v:=.int _ _) rfl (lk rfl rfl) rfl rfl rfl) ?_
       refine q2x (g:=37) 15 rfl Y1v (by decide) rfl rfl (fun G=>q5d rfl rfl hup.1 hr1 rfl) ?_
       refine q2x (g:=37) 16 rfl Y1v (by decide) rfl rfl (fun G=>q4s rfl (by decide)) ?_
       refine q2x (g:=37) 17 rfl Y1v (by decide) rfl rfl (fun G=>q2m (v:=.int _ _) rfl hr1 rfl) ?_
       refine qct (g:=37) 18 rfl Y1v (by decide) rfl rfl (fun _=>V2.call (qqm _ _ _) rfl) ?_
       refine q2s (g:=37) 19 rfl Y1v (by decide) rfl rfl (fun _=>qa2 rfl) ?_
       refine aq0 20 rfl Y1v (by decide) (fun _=>q1r (v:=.bool _) rfl rfl) ?_
       refine Za4 ?_
       refine q13 (g:=49) rfl (fun hg21=>?_) (fun hg21=>?_)
       ·refine Za5 ?_
        refine Za6 ?_
        refine Za7 ?_
        refine Za8 ?_
        refine Za9 ?_
        refine Zaa ?_
        refine Zai ?_
        exact Zap
       ·refine q2x (g:=49) 22 rfl Y1v (by decide) rfl rfl (fun G=>qc rfl (lk rfl rfl) rfl (by decide)) ?_
        refine q2x (g:=49) 23 rfl Y1v (by decide) rfl rfl (fun G=>qh (v:=.str _) rfl (lk rfl rfl) rfl rfl rfl) ?_
        refine qct (g:=49) 24 rfl Y1v (by decide) rfl rfl (fun _=>V2.call (qlw _ _) rfl) ?_
        refine q2s (g:=49) 25 rfl Y1v (by decide) rfl rfl (fun _=>qa2 rfl) ?_
        refine Zaq ?_
        refine Zaa ?_
        refine q13 (g:=55) rfl (fun hg27=>?_) (fun hg27=>?_)
        ·refine Zai ?_
         exact Zap
        ·refine q2x (g:=55) 28 rfl Y1v (by decide) rfl rfl (fun G=>qc rfl (lk rfl rfl) rfl (by decide)) ?_
         refine q2x (g:=55) 29 rfl Y1v (by decide) rfl rfl (fun G=>qh (v:=.str _) rfl (lk rfl rfl) rfl rfl rfl) ?_
         refine q2s (g:=55) 30 rfl Y1v (by decide) rfl rfl (fun _=>qp5 rfl rfl) ?_
         refine q2s (g:=55) 31 rfl Y1v (by decide) rfl rfl (fun _=>qk (v:=.bool _) rfl) ?_
         refine q13 (g:=59) rfl (fun hg31=>?_) (fun hg31=>?_)
         ·refine q2x (g:=59) 32 rfl Y1v (by decide) rfl rfl (fun G=>qc rfl (lk rfl rfl) rfl (by decide)) ?_
          refine q2x (g:=59) 33 rfl Y1v (by decide) rfl rfl (fun G=>qh (v:=.int _ _) rfl (lk rfl rfl) rfl rfl rfl) ?_
          refine q2s (g:=59) 34 rfl Y1v (by decide) rfl rfl (fun _=>qyn rfl rfl) ?_
          refine q2s (g:=55) 35 rfl Y1v (by decide) rfl rfl (fun _=>q1q (v:=.bool _) rfl rfl) ?_
          refine Zar ?_
          exact q1y Y1v Y1f (Out.mk (by (refine congrArg AV.bool ?_;(rw [hB2];clear hB hr1 hB2;grind))) Yb)
         ·refine q17 (g:=59) 32 rfl Y1v (by decide) rfl rfl rfl ?_
          refine q17 (g:=59) 33 rfl Y1v (by decide) rfl rfl rfl ?_
          refine q17 (g:=59) 34 rfl Y1v (by decide) rfl rfl rfl ?_
          refine q2s (g:=55) 35 rfl Y1v (by decide) rfl rfl (fun _=>q1r (v:=.bool _) rfl rfl) ?_
          refine Zar ?_
          exact Zap
    refine Z1 ?_
    refine qa rfl (fun hc=>?_) (fun hc=>?_)
    ·have hbad:qng (t0 :: g1) i=false:=by simpa only [Bool.not_eq_true'] using hc
     refine Zf ?_
     rw [q41 hlt hbad]
     exact Zb
    ·have hgood:qng (t0 :: g1) i=true:=by simpa only [Bool.not_eq_false'] using hc
     refine Z4f ?_
     refine ⟨i+1,by omega,⟨by omega,fun k hk=>?_⟩,Y8,Fit.loc hB (L:=[]) rfl Y1 (fun o ho=>by simp at ho)⟩
     rcases Nat.lt_or_eq_of_le (Nat.le_of_lt_succ hk) with h | h
     ·exact hno0 k h
     ·subst h;exact hgood
   ·have hB3:qng (t0 :: g1) i=false:=by
     rw [hB2]
     rcases Classical.not_and_iff_not_or_not.1 hup with h | h
     ·rw [decide_eq_false h];rfl
     ·rw [decide_eq_false h];simp
    clear hB2 hyes hl
    refine Z1 ?_
    refine q1n 64 (.bool (!qng (t0 :: g1) i)) ?_ ?_
    ·refine Z9j ?_
     refine Z9k ?_
     refine Z9l ?_
     refine Z9m ?_
     refine Z7q ?_
     refine q13 (g:=31) rfl (fun hg3=>?_) (fun hg3=>?_)
     ·refine Z9n ?_
      refine Z9o ?_
      refine Z9p ?_
      refine Z9q ?_
      refine Z9r ?_
      refine Z9s ?_
      refine Z9t ?_
      refine Z9u ?_
      refine Z9v ?_
      refine Z9w ?_
      refine Z9x ?_
      refine Z9y ?_
      refine Z9z ?_
      refine Za0 ?_
      refine Za1 ?_
      refine Za2 ?_
      refine Za3 ?_
      refine Za4 ?_
      refine Za5 ?_
      refine Za6 ?_
      refine Za7 ?_
      refine Za8 ?_
      refine Za9 ?_
      refine Zaa ?_
      refine Zai ?_
      exact Zas
     ·refine Zak ?_
      refine Zal ?_
      refine Zam ?_
      refine Zan ?_
      refine Zao ?_
      refine Z9s ?_
      refine q13 (g:=37) rfl (fun hg9=>?_) (fun hg9=>?_)
      ·refine Z9t ?_
       refine Z9u ?_
       refine Z9v ?_
       refine Z9w ?_
       refine Z9x ?_
       refine Z9y ?_
       refine Z9z ?_
       refine Za0 ?_
       refine Za1 ?_
       refine Za2 ?_
       refine Za3 ?_
       refine Za4 ?_
       refine Za5 ?_
       refine Za6 ?_
       refine Za7 ?_
       refine Za8 ?_
       refine Za9 ?_
       refine Zaa ?_
       refine Zai ?_
       exact Zas
      ·exfalso;simp at hg3 hg9;omega
    refine Z1 ?_
    refine qa rfl (fun hc=>?_) (fun hc=>?_)
    ·have hbad:qng (t0 :: g1) i=false:=by simpa only [Bool.not_eq_true'] using hc
     refine Zf ?_
     rw [q41 hlt hbad]
     exact Zb
    ·have hgood:qng (t0 :: g1) i=true:=by simpa only [Bool.not_eq_false'] using hc
     refine Z4f ?_
     refine ⟨i+1,by omega,⟨by omega,fun k hk=>?_⟩,Y8,Fit.loc hB (L:=[]) rfl Y1 (fun o ho=>by simp at ho)⟩
     rcases Nat.lt_or_eq_of_le (Nat.le_of_lt_succ hk) with h | h
     ·exact hno0 k h
     ·subst h;exact hgood
  ·have:i=g1.length:=by simp at hc;omega
   subst this
   refine Zf ?_
   rw [q4e hno]
   exact Zb
theorem qnh (g:List Thing) (n:Int) (H:qf) (hl:g.length≤9223372036854775807):AC Tryz.prog 107 [.pl (g.map qq),.int .i64 n] H (Ret (.bool (q84 g n)) H):=by
 refine AC.body (N:=17) [.tmp 4] Tryz.func107 rfl rfl rfl (Nat.le_of_ble_eq_true rfl) fun B hB=>?_
 refine Zf ?_
 refine qn 4 (.bool (q84 g n)) ?_ ?_
 ·refine Z8 ?_
  refine Z25 ?_
  refine qb rfl rfl (fun hg2=>?_) (fun hg2=>?_)
  ·refine Zj ?_
   refine Z9b ?_
   refine Zk ?_
   refine Z2q ?_
   refine qb rfl rfl (fun hg8=>?_) (fun hg8=>?_)
   ·refine Z99 ?_
    refine q5r rfl rfl (by decide) (V2.call (qa5 _ _ Y23) rfl) ?_
    refine Zn ?_
    exact qe (Out.mk (by (refine congrArg AV.bool ?_;(simp only [q84];clear hB;(simp_all;done)))) Yb)
   ·refine Zt ?_
    exact Zat
  ·refine Zq ?_
   refine Z53 ?_
   refine Zt ?_
   exact Zat
 exact Z21
set_option maxHeartbeats 0 in
theorem qg0 (g:List Thing) (n:Int) (H:qf) (hl:g.length≤9223372036854775807):AC Tryz.prog 62 [.pl (g.map qq),.int .i64 n] H (Ret (.pl ((q6f g n).map q3s)) H):=by
 have hbel:∀ (b i:Nat) (n:Int) (l:List Int),∀ o∈[AObj.mk 0 1 (qn3 g n i),AObj.mk l.length 1 (l.map q3s)],∀ r∈o.rows,AV.bels b r=true:=by
  intro b i n l o ho r hr
  simp only [List.mem_cons,List.not_mem_nil,or_false] at ho
  rcases ho with rfl | rfl
  ·exact qza _ _ _ _ r hr
  ·exact q3a _ _ r hr
 refine AC.body (N:=55) [.tmp 4] Tryz.func62 rfl rfl rfl (Nat.le_of_ble_eq_true rfl) fun B hB=>?_
 refine Z3f ?_
 refine Zau ?_
 refine q12 (qnh _ _ _ Y23) rfl (by decide) ?_
 refine Z39 ?_
 refine qa rfl (fun hc=>?_) (fun hc=>?_)
 ·have hno:q84 g n=false:=by simpa only [Bool.not_eq_true'] using hc
  rw [show q6f g n=[] by rw [q6f,hno];rfl]
  refine Z3m ?_
  refine q26 4 rfl ?_
  exact q2y (q4u hB (q2n rfl .nil) rfl rfl)
 have hyes:q84 g n=true:=by simpa only [Bool.not_eq_false'] using hc
 rw [qqg hyes]
 obtain ⟨m,rfl⟩:∃ m:Nat,n=m:=⟨n.toNat,by simp only [q84,Bool.and_eq_true,decide_eq_true_eq] at hyes;omega⟩
 have hm:m<g.length:=by simp only [q84,Bool.and_eq_true,decide_eq_true_eq] at hyes;omega
 have hg:q2f g=true:=by simp only [q84,Bool.and_eq_true,decide_eq_true_eq] at hyes;exact hyes.2
 have hlen:=q30 hg
 have hml:(g.map qq).length=g.length:=by simp
 refine Z6a ?_
 refine ao2 Y1o (q3z (n:=g.length) (c:=g.length) (bytes:=1) rfl (by decide) (congrArg (fun k:Nat=>AV.int .i64 (k:Int)) hml) (congrArg (fun k:Nat=>AV.int .i64 (k:Int)) hml) (Nat.le_refl _) (by omega) (by omega) rfl) ?_
 refine Z8x ?_
 refine Zav ?_
 have hrow:(List.replicate g.length [AV.bool false])[0+m]?=some [.bool false]:=by rw [Nat.zero_add,List.getElem?_replicate,if_pos hm]
 refine Z8u ?_
 refine Zaw ?_
 refine ao2 Y21 (q1i (sz:=1) (v:=.bool _) (r':=[.bool true]) rfl rfl rfl rfl hrow rfl rfl rfl Y1r rfl) ?_
 refine Zax ?_
 rw [Nat.zero_add,qur hm]
 clear hrow hc
 refine Z3m ?_
 refine q1v (k:=1) 6 1 rfl (by decide) rfl ?_
 refine Zb0 ?_
 refine Z8p ?_
 refine Z1d ?_
 refine qm (G:=Nat) (fun i=>i≤g.length) (fun i=>[(5,.sl (Lid H.length 0) 0 0 g.length g.length),(6,.sl (Lid H.length 1) (idx (uU g m) i).length 0 (idx (uU g m) i).length (idx (uU g m) i).length),(19,.pl (g.map qq)),(20,.int .i64 ((g.map qq).length:Int)),(21,.int .i64 (i:Int))]) (fun i=>H++[⟨0,1,qn3 g m i⟩,⟨(idx (uU g m) i).length,1,(idx (uU g m) i).map q3s⟩]) (fun i=>g.length-i) 0 (Nat.zero_le _) Y8 (Fit.refl _ _) ?_
 intro i hi
 refine Z43 ?_
 refine qa rfl (fun hc=>?_) (fun hc=>?_)
 ·have hlt:i<g.length:=by simpa using hc
  obtain ⟨t,ht,htl⟩:=qo hlt
  have hr:=ql qq ht
  obtain ⟨hu1,hu2⟩:=qfv hg ht
  have hat:=q14q (n:=(m:Int)) ht hu1
  have hrow0:(qn3 g (m:Int) i)[0+i]?=some [.bool (decide ((i:Int)=(m:Int)))]:=by rw [Nat.zero_add,q81 hlt,uAt,if_neg (Nat.lt_irrefl _)]
  have q5q:=qzl g (m:Int) i
  have hstep:=qak (uU g (m:Int)) i
  have hil:=qae (uU g (m:Int)) i
  have hrow1:(qn3 g (m:Int) (i+1))[0+i]?=some [.bool (uU g (m:Int) i)]:=by rw [Nat.zero_add,q81 hlt,uAt,if_pos (Nat.lt_succ_self _)]
  refine Z9e ?_
  refine Z9f ?_
  refine Z3 ?_
  refine Z9g ?_
  refine Zb2 ?_
  clear hr ht htl hc
  refine Z1 ?_
  refine q3x ([(5,.sl (Lid H.length 0) 0 0 g.length g.length),(6,.sl (Lid H.length 1) (idx (uU g m) i).length 0 (idx (uU g m) i).length (idx (uU g m) i).length),(7,.int .i64 (i:Int)),(19,.pl (g.map qq)),(20,.int .i64 ((g.map qq).length:Int)),(21,.int .i64 (i:Int))]) (H++[⟨0,1,qn3 g m (i+1)⟩,⟨(idx (uU g m) i).length,1,(idx (uU g m) i).map q3s⟩,⟨0,3,[qq t]⟩]) ?_ ?_
  ·by_cases hup:0≤t.up
   ·have hrow2:=q81 (g:=g) (n:=(m:Int)) (i:=i) (j:=t.up.toNat) (by omega)
    rw [uAt,if_pos (by omega),← Nat.zero_add t.up.toNat] at hrow2
    refine Zb3 ?_
    refine Z8 ?_
    refine Z8s ?_
    refine Zb4 ?_
    refine Zb5 ?_
    refine Zh ?_
    refine qb rfl rfl (fun hg6=>?_) (fun hg6=>?_)
    ·refine Z48 ?_
     refine Zb8 ?_
     refine Zb6 ?_
     refine Z2t ?_
     refine Zm ?_
     refine Zaw ?_
     refine Zb9 ?_
     refine qe ?_
     (rw [Nat.zero_add,q5q];exact q22 Y8 (.inl rfl))
    ·refine Z2o ?_
     refine Z4b ?_
     refine Z32 ?_
     refine qb rfl rfl (fun hg10=>?_) (fun hg10=>?_)
     ·refine Zba ?_
      refine Z2o ?_
      refine q1c rfl rfl (by decide) (qer rfl (lk rfl rfl) rfl rfl rfl hup (by omega)) ?_
      refine q1c rfl rfl (by decide) (qh (v:=.bool _) rfl (lk rfl rfl) rfl hrow2 rfl) ?_
      refine Zbb ?_
      refine Zr ?_
      refine Zaw ?_
      refine Zbc ?_
      refine qe ?_
      (rw [Nat.zero_add,q5q];exact q22 Y8 (.inl rfl))
     ·refine Z4m ?_
      refine Zp ?_
      refine Zbd ?_
      refine Zr ?_
      refine Zaw ?_
      refine ao2 Y21 (q1i (sz:=1) (v:=.bool _) (r':=[.bool (uU g m i)]) rfl rfl rfl rfl hrow0 rfl rfl rfl Y1r (by rw [hat];(exfalso;simp at hg10;omega))) ?_
      refine qe ?_
      (rw [Nat.zero_add,q5q];exact q22 Y8 (.inl rfl))
   ·refine Z8u ?_
    refine Z8s ?_
    refine Zb4 ?_
    refine Zb5 ?_
    refine Zh ?_
    refine qb rfl rfl (fun hg6=>?_) (fun hg6=>?_)
    ·refine Z48 ?_
     refine Zb8 ?_
     refine Zb6 ?_
     refine Z2t ?_
     refine Zm ?_
     refine Zaw ?_
     refine Zb9 ?_
     refine qe ?_
     (rw [Nat.zero_add,q5q];exact q22 Y8 (.inl rfl))
    ·refine Z2o ?_
     refine Z4b ?_
     refine Z32 ?_
     refine qb rfl rfl (fun hg10=>?_) (fun hg10=>?_)
     ·exfalso;simp at hg10;omega
     ·refine Z4m ?_
      refine Zp ?_
      refine Zbd ?_
      refine Zr ?_
      refine Zaw ?_
      refine Zbc ?_
      refine qe ?_
      (rw [Nat.zero_add,q5q];exact q22 Y8 (.inl rfl))
  refine Z8u ?_
  refine Zaw ?_
  refine ao1 (by decide) (qh (v:=.bool _) rfl (lk rfl rfl) rfl hrow1 rfl) ?_
  refine Z9 ?_
  refine qa rfl (fun hc=>?_) (fun hc=>?_)
  ·refine Z8u ?_
   refine Z8v ?_
   refine Z8z ?_
   rw [show ((idx (uU g (m:Int)) i).map q3s).take (idx (uU g (m:Int)) i).length=(idx (uU g (m:Int)) i).map q3s from List.take_of_length_le (by simp)]
   refine Z4f ?_
   refine ⟨i+1,by omega,by omega,by rw [hstep,if_pos hc,List.length_append];exact Y8,Fit.loc hB (by rw [hstep,if_pos hc];simp only [List.length_append,List.length_cons,List.length_nil,List.map_append,List.map_cons,List.map_nil];rfl) Y1 (hbel _ _ _ _)⟩
  ·refine Z4f ?_
   refine ⟨i+1,by omega,by omega,by rw [hstep,if_neg (by simp [hc]),List.append_nil];exact Y8,Fit.loc hB (L':=_) (G:=[_]) (by rw [hstep,if_neg (by simp [hc]),List.append_nil];rfl) Y1 (hbel _ _ _ _)⟩
 ·have:i=g.length:=by simp at hc;omega
  subst this
  refine Z91 ?_
  refine qr (ys:=(idx (uU g m) g.length).map q3s) 4 rfl rfl rfl rfl Yn (by simp) (q3a 0 _) ?_
  exact Z92
theorem q62 (l:List Thing) (H:qf) (hn:l.length≤1000000):AC Tryz.prog 40 [.pl (l.map qq)] H (Ret (.pl (l.map qq)) H):=by
 refine AC.body (N:=8) [.tmp 2] Tryz.func40 rfl rfl rfl (Nat.le_of_ble_eq_true rfl) fun B hB=>?_
 refine Z3i ?_
 refine q6e rfl Y1o (qac rfl rfl _ _ _ _) ?_ (fun _ _ h=>h.elim)
 rintro _ _ ⟨nb,rfl,hnb,rfl⟩
 refine Z3k ?_
 refine qa rfl (fun hc=>?_) (fun hc=>?_)
 ·subst hc
  have hb:l=[]:=by
   cases l with
   | nil=>rfl
   | cons x b=>simp at hnb
  subst hb
  refine Z3n ?_
  exact q2y (q4u hB (q2n rfl .nil) rfl rfl)
 ·refine Z2 ?_
  refine Z3o ?_
  refine Z3g ?_
  refine ao2 Y1o (q5h (sz:=3) (bytes:=32) rfl (Src.pl rfl (qh6 l)) rfl (by decide) Y22 Y22 (qr3 0 l)) ?_
  exact Z3r
theorem qbk (l:List Int) (H:qf) (hn:l.length≤1000000):AC Tryz.prog 128 [.pl (l.map eI)] H (Ret (.sl (Lid H.length 0) 0 0 l.length l.length) (H++[⟨0,1,l.map eI⟩])):=by
 refine AC.body (N:=8) [.tmp 2] Tryz.func128 rfl rfl rfl (Nat.le_of_ble_eq_true rfl) fun B hB=>?_
 refine Z3i ?_
 refine q6e rfl Y1o (qac rfl rfl _ _ _ _) ?_ (fun _ _ h=>h.elim)
 rintro _ _ ⟨nb,rfl,hnb,rfl⟩
 refine Z3k ?_
 refine qa rfl (fun hc=>?_) (fun hc=>?_)
 ·subst hc
  have hb:l=[]:=by
   cases l with
   | nil=>rfl
   | cons x b=>simp at hnb
  subst hb
  refine Z3f ?_
  refine Zbe ?_
  refine Z1d ?_
  refine Zbf ?_
  exact q2y (qag (G:=[]) hB (q2n rfl .nil) rfl rfl Y1q (by simp))
 ·refine Z2 ?_
  refine Z3o ?_
  refine Z3g ?_
  refine ao2 Y1o (q6p rfl (Src.pl rfl (q109 l)) rfl (by decide) Y22 Y22 rfl) ?_
  refine Zbg ?_
  refine Z1 ?_
  exact qag (G:=[]) hB (q2n rfl .nil) (congrArg (fun n=>AV.sl (Lid H.length 0) 0 0 n n) (show (l.map eI).length=l.length by simp)) (by simp) Y1q Ya
theorem qc9 (F:Nat) [FnI Tryz.prog F] (p:Int→Bool) (hF:∀ (x:Int) (H:qf),AC Tryz.prog F [.int .i64 x] H (Ret (.bool (p x)) H)) (l:List Int) (H:qf) (hl:l.length≤1000000):AC Tryz.prog 119 [.pl (l.map eI),.fn (.func F) [] []] H (Ret (.int .i64 (ixf p l)) H):=by
 refine AC.body (N:=19) [.tmp 4] Tryz.func119 rfl rfl rfl (Nat.le_of_ble_eq_true rfl) fun B hB=>?_
 refine Z7c ?_
 refine qm (G:=Nat) (fun k=>k≤l.length∧∀ y∈l.take k,p y=false) (fun k=>[(0,.pl (l.map eI)),(1,.fn (.func F) [] []),(7,.int .i64 (l.length:Int)),(8,.int .i64 (k:Int))]) (fun _=>H++[]) (fun k=>l.length-k) 0 ⟨Nat.zero_le _,by simp⟩ Y8 (Fit.refl _ _) ?_
 rintro k ⟨hk,hno⟩
 refine Z43 ?_
 refine qa rfl (fun hc=>?_) (fun hc=>?_)
 ·have hlt:k<l.length:=by simpa using hc
  obtain ⟨x,hx,hxl⟩:=qo hlt
  have hr:=ql eI hx
  refine Z1c ?_
  refine Z1u ?_
  refine Zbh ?_
  refine Z46 ?_
  refine ao2 Y1o (V2.callv (hF x _) rfl rfl) ?_
  refine Z3k ?_
  refine qa rfl (fun hc=>?_) (fun hc=>?_)
  ·refine Z1v ?_
   rw [qbj hx hc hno]
   exact Zb
  ·refine Z4f ?_
   refine ⟨k+1,by omega,⟨by omega,?_⟩,Y8,.refl _ _⟩
   rw [qj hx]
   intro y hy
   rcases List.mem_append.1 hy with h | h
   ·exact hno y h
   ·simp only [List.mem_singleton] at h
    subst h
    exact hc
 ·have:k=l.length:=by simp at hc;omega
  subst this
  rw [List.take_length] at hno
  rw [qax hno]
  exact Z18
theorem q5w (F:Nat) [FnI Tryz.prog F] (p:Int→Bool) (hF:∀ (x:Int) (H:qf),AC Tryz.prog F [.int .i64 x] H (Ret (.bool (p x)) H)) (l:List Int) (H:qf) (hl:l.length≤1000000):AC Tryz.prog 71 [.pl (l.map eI),.fn (.func F) [] []] H (Ret (.bool (l.any p)) H):=by
 refine AC.body (N:=9) [.tmp 4] Tryz.func71 rfl rfl rfl (Nat.le_of_ble_eq_true rfl) fun B hB=>?_
 refine Z1q ?_
 refine Z3h ?_
 refine Z1t ?_
 refine ao2 Y1o (V2.call (qc9 F p hF l _ hl) rfl) ?_
 refine Z1r ?_
 refine Zbi ?_
 refine Z1 ?_
 rw [← q7e]
 exact Zb
theorem qg2 (n:Int) (H:qf):AC Tryz.prog 108 [.int .i64 n] H (Ret (.bool (decide (n<0)||decide (2<n))) H):=by
 refine AC.body (N:=9) [.tmp 2] Tryz.func108 rfl rfl rfl (Nat.le_of_ble_eq_true rfl) fun B hB=>?_
 refine Zf ?_
 refine qn 2 (.bool (decide (n<0)||decide (2<n))) ?_ ?_
 ·refine Zw ?_
  refine qb rfl rfl (fun hg2=>?_) (fun hg2=>?_)
  ·refine Z2u ?_
   refine Zn ?_
   exact Zo
  ·refine Z5o ?_
   refine Z30 ?_
   exact Zo
 exact Z21
theorem qlx (g:List Thing) (h:List Int) (H:qf) (hl:g.length≤1000000) (hh:h.length≤1000000):AC Tryz.prog 64 [.pl (g.map qq),.pl (h.map eI)] H (Ret (.bool (q50 g h)) H):=by
 have hl2:g.length≤9223372036854775807:=by omega
 refine AC.body (N:=19) [.tmp 4] Tryz.func64 rfl rfl rfl (Nat.le_of_ble_eq_true rfl) fun B hB=>?_
 refine Zf ?_
 refine qn 4 (.bool (q50 g h)) ?_ ?_
 ·refine Z3g ?_
  refine Zbj ?_
  refine Zh ?_
  refine qb rfl rfl (fun hg2=>?_) (fun hg2=>?_)
  ·refine Z9b ?_
   refine Z9b ?_
   refine Z4v ?_
   refine qb rfl rfl (fun hg9=>?_) (fun hg9=>?_)
   ·refine Z99 ?_
    refine q5r rfl rfl (by decide) (V2.call (q5w 108 _ qg2 h _ hh) rfl) ?_
    refine Z1w ?_
    refine Zn ?_
    exact Zbk
   ·refine Z20 ?_
    exact Zbk
  ·refine Z72 ?_
   refine Z20 ?_
   exact qe (Out.mk (by (refine congrArg AV.bool ?_;(simp only [q50];clear hB;(simp_all;done)))) Yb)
 exact Z21
theorem qro (g:List Thing) (H:qf) (hl:g.length≤1000000):AC Tryz.prog 61 [.pl (g.map qq)] H (Ret (.pl ((if q2f g then List.replicate g.length (0:Int) else []).map eI)) H):=by
 have hl2:g.length≤9223372036854775807:=by omega
 refine AC.body (N:=9) [.tmp 2] Tryz.func61 rfl rfl rfl (Nat.le_of_ble_eq_true rfl) fun B hB=>?_
 refine Z3i ?_
 refine Zbj ?_
 refine Z39 ?_
 refine qa rfl (fun hc=>?_) (fun hc=>?_)
 ·have hno:q2f g=false:=by simpa only [Bool.not_eq_true'] using hc
  rw [hno]
  refine Z3n ?_
  exact q2y (q4u hB (q2n rfl .nil) rfl rfl)
 have hyes:q2f g=true:=by simpa only [Bool.not_eq_false'] using hc
 rw [hyes,if_pos rfl]
 have hml:(g.map qq).length=g.length:=by simp
 refine Z6a ?_
 refine ao2 Y1o (q3z (n:=g.length) (c:=g.length) (bytes:=8) rfl (by decide) (congrArg (fun k:Nat=>AV.int .i64 (k:Int)) hml) (congrArg (fun k:Nat=>AV.int .i64 (k:Int)) hml) (Nat.le_refl _) (by omega) (by omega) rfl) ?_
 refine Z8x ?_
 refine Zav ?_
 refine Z1d ?_
 refine qr (ys:=(List.replicate g.length (0:Int)).map eI) 2 rfl rfl rfl rfl (by rw [List.drop_zero,List.take_of_length_le (by simp),List.map_replicate]) (by simp) (qd4 0 _) ?_
 exact Z92
set_option maxHeartbeats 0 in
theorem qjr (g:List Thing) (h:List Int) (H:qf) (hg:q2f g=true) (hh:h.length=g.length):AC Tryz.prog 247 [.pl (g.map qq),.pl (h.map eI)] H (Ret (.pl ((q4x g h g.length).map eI)) H):=by
 have hlen:=q30 hg
 refine AC.body (N:=35) [.tmp 4] Tryz.func247 rfl rfl rfl (Nat.le_of_ble_eq_true rfl) fun B hB=>?_
 refine Z3i ?_
 refine ao2 Y1o (V2.callo (qbk h _ (by omega)) rfl rfl) ?_
 refine Zbg ?_
 rw [hh]
 refine Z7b ?_
 refine qm (G:=Nat) (fun i=>i≤g.length) (fun i=>[(5,.sl (Lid H.length 0) 0 0 g.length g.length),(10,.pl (g.map qq)),(11,.int .i64 ((g.map qq).length:Int)),(12,.int .i64 (i:Int))]) (fun i=>H++[⟨0,1,(qlz g h i).map eI⟩]) (fun i=>g.length-i) 0 (Nat.zero_le _) Y8 (.inl (by rw [qv1 hh])) ?_
 intro i hi
 refine Z43 ?_
 refine qa rfl (fun hc=>?_) (fun hc=>?_)
 ·have hlt:i<g.length:=by simpa using hc
  obtain ⟨t,ht,htl⟩:=qo hlt
  have hr:=ql qq ht
  obtain ⟨hu1,hu2⟩:=qfv hg ht
  have hat:=q14d (h:=h) ht hu1
  refine Z9e ?_
  refine Z9f ?_
  refine Z3 ?_
  refine Z9g ?_
  refine Zb2 ?_
  refine Z4o ?_
  refine Z1r ?_
  refine Z3y ?_
  clear hr
  refine Z1 ?_
  refine qa rfl (fun hc=>?_) (fun hc=>?_)
  ·have hup:0≤t.up:=by simpa using hc
   rw [if_pos hup] at hat
   have hr0:((qlz g h i).map eI)[0+i]?=some [.int .i64 (h.getD i 0)]:=by rw [Nat.zero_add,List.getElem?_map,q7n hlt,wAt,if_neg (by omega)];rfl
   have hr1:((qlz g h i).map eI)[0+t.up.toNat]?=some [.int .i64 (wW g h t.up.toNat)]:=by rw [Nat.zero_add,List.getElem?_map,q7n (by omega),wAt,if_pos (by omega)];rfl
   have q5q:((qlz g h i).map eI).set (0+i) [.int .i64 (wW g h i)]=(qlz g h (i+1)).map eI:=by rw [Nat.zero_add,← qzo,List.map_set]
   refine q39 mixed (some 13) 2 ?_
   refine Z82 ?_
   refine Zbm ?_
   refine Zbn ?_
   refine Zbo ?_
   refine aqp 4 rfl Y1v (by decide) (fun G=>qw rfl (lk rfl rfl) rfl rfl rfl (by omega)) ?_
   refine aqp 5 rfl Y1v (by decide) (fun G=>qh (v:=.int _ _) rfl (lk rfl rfl) rfl hr0 rfl) ?_
   refine aq0 6 rfl Y1v (by decide) (fun _=>qk (v:=.sl _ _ _ _ _) rfl) ?_
   refine Zbp ?_
   refine aqp 8 rfl Y1v (by decide) (fun G=>qh (v:=.int _ _) rfl (lk rfl rfl) rfl rfl rfl) ?_
   refine aqp 9 rfl Y1v (by decide) (fun G=>qer rfl (lk rfl rfl) rfl rfl rfl hup (by omega)) ?_
   refine aqp 10 rfl Y1v (by decide) (fun G=>qh (v:=.int _ _) rfl (lk rfl rfl) rfl hr1 rfl) ?_
   refine aq0 11 rfl Y1v (by decide) (fun _=>qxv (r:=wW g h i) rfl rfl hat.symm) ?_
   refine aqp 12 rfl Y1v (by decide) (fun G=>qw rfl (lk rfl rfl) rfl rfl rfl (by omega)) ?_
   refine aqs 13 rfl Y1v Y1f Y21 (q1i (sz:=1) (v:=.int _ _) (r':=[.int .i64 (wW g h i)]) rfl rfl rfl rfl hr0 rfl rfl rfl Y1r rfl) ?_
   refine Z7i ?_
   refine Z5h ?_
   rw [q5q]
   refine Z4f ?_
   exact ⟨i+1,by omega,by omega,Y8,Fit.loc hB rfl Y1 Ya⟩
  ·have hup:¬ 0≤t.up:=by simpa using hc
   rw [if_neg hup] at hat
   refine Z4f ?_
   refine ⟨i+1,by omega,by omega,Y8,Fit.loc hB (G:=[_]) (by rw [qvv hat];rfl) Y1 Ya⟩
 ·have:i=g.length:=by simp at hc;omega
  subst this
  rw [qzq]
  refine Z91 ?_
  refine qr (ys:=(q4x g h g.length).map eI) 4 rfl rfl rfl rfl (by rw [List.drop_zero,List.take_of_length_le (by simp [q3t])]) (by simp [q3t]) (qd4 0 _) ?_
  exact Z92
def hbP (g:List Thing) (h:List Int) (most:Int) (k:Nat):Bool:=decide ((q4x g h g.length).getD k 0≤most)
set_option maxHeartbeats 0 in
theorem qku (g:List Thing) (h:List Int) (most:Int) (H:qf) (hl:g.length≤1000000) (hh:h.length≤1000000):AC Tryz.prog 225 [.pl (g.map qq),.pl (h.map eI),.int .i64 most] H (Ret (.pl ((q2p g h most).map eI)) H):=by
 refine AC.body (N:=32) [.tmp 6] Tryz.func225 rfl rfl rfl (Nat.le_of_ble_eq_true rfl) fun B hB=>?_
 refine Z93 ?_
 refine Zbq ?_
 refine Z39 ?_
 refine qa rfl (fun hc=>?_) (fun hc=>?_)
 ·have hno:q50 g h=false:=by simpa only [Bool.not_eq_true'] using hc
  rw [show q2p g h most=[] by rw [q2p,hno];rfl]
  refine Z3m ?_
  refine q26 6 rfl ?_
  exact q2y (q4u hB (q2n rfl .nil) rfl rfl)
 have hyes:q50 g h=true:=by simpa only [Bool.not_eq_false'] using hc
 obtain ⟨hg,hh2,_⟩:=q6q hyes
 have hlen:=q30 hg
 rw [show q2p g h most=idx (hbP g h most) g.length by rw [q2p,hyes];rfl]
 have hwl:((q4x g h g.length).map eI).length=g.length:=by rw [List.length_map,q3t]
 clear hc
 refine Z3m ?_
 refine q1v (k:=0) 7 1 rfl (by decide) rfl ?_
 refine Zay ?_
 refine Z3g ?_
 refine q12 (qjr _ _ _ Y23 Y23) rfl (by decide) ?_
 refine Zaz ?_
 refine Zbr ?_
 refine Z1d ?_
 refine qm (G:=Nat) (fun i=>i≤g.length) (fun i=>[(2,.int .i64 most),(7,.sl (Lid H.length 0) (idx (hbP g h most) i).length 0 (idx (hbP g h most) i).length (idx (hbP g h most) i).length),(16,.pl ((q4x g h g.length).map eI)),(17,.int .i64 (((q4x g h g.length).map eI).length:Int)),(18,.int .i64 (i:Int))]) (fun i=>H++[⟨(idx (hbP g h most) i).length,1,(idx (hbP g h most) i).map eI⟩]) (fun i=>g.length-i) 0 (Nat.zero_le _) Y8 (Fit.refl _ _) ?_
 intro i hi
 refine Z43 ?_
 refine qa rfl (fun hc=>?_) (fun hc=>?_)
 ·have hlt:i<g.length:=by rw [hwl] at hc;simpa using hc
  obtain ⟨x,hx,hxl⟩:=qo (l:=q4x g h g.length) (k:=i) (by rw [q3t];exact hlt)
  have hr:=ql eI hx
  have hxw:=qwo hx
  have hstep:=qak (hbP g h most) i
  have hil:=qae (hbP g h most) i
  have hP:hbP g h most i=decide (x≤most):=by rw [hbP,hxw];rfl
  refine Z11 ?_
  refine Z46 ?_
  refine Z15 ?_
  refine Z26 ?_
  refine Zg ?_
  refine Z9 ?_
  refine qa rfl (fun hc=>?_) (fun hc=>?_)
  ·have hp:hbP g h most i=true:=by rw [hP];exact hc
   refine Zb3 ?_
   refine Z8 ?_
   refine Z8v ?_
   refine Z8y ?_
   refine Zbs ?_
   rw [show ((idx (hbP g h most) i).map eI).take (idx (hbP g h most) i).length=(idx (hbP g h most) i).map eI from List.take_of_length_le (by simp)]
   refine Z4f ?_
   refine ⟨i+1,by omega,by omega,by rw [hstep,if_pos hp,List.length_append];exact Y8,Fit.loc hB (by rw [hstep,if_pos hp];simp only [List.length_append,List.length_cons,List.length_nil,List.map_append,List.map_cons,List.map_nil];rfl) Y1 Ya⟩
  ·have hp:¬ hbP g h most i=true:=by rw [hP];simpa using hc
   refine Z4f ?_
   refine ⟨i+1,by omega,by omega,by rw [hstep,if_neg hp,List.append_nil];exact Y8,.inl (by rw [hstep,if_neg hp,List.append_nil])⟩
 ·have:i=g.length:=by rw [hwl] at hc;simp at hc;omega
  subst this
  refine Z91 ?_
  refine qr (ys:=(idx (hbP g h most) g.length).map eI) 6 rfl rfl rfl rfl Yn (by simp) (qd4 0 _) ?_
  exact Z92
theorem qin (g:List Thing) (h:List Int) (H:qf) (hl:g.length≤1000000) (hh:h.length≤1000000):AC Tryz.prog 236 [.pl (g.map qq),.pl (h.map eI)] H (Ret (.pl ((q2p g h 0).map eI)) H):=by
 refine AC.body (N:=8) [.tmp 4] Tryz.func236 rfl rfl rfl (Nat.le_of_ble_eq_true rfl) fun B hB=>?_
 refine Z93 ?_
 refine Zbt ?_
 refine Z3p ?_
 refine Z9 ?_
 exact Zb
end Go.Av
namespace Go.Av
section
variable {P : Program} {N : Nat} {B : Base} {ops : Array Oper} {a : Option Nat} {C : qf → Prop} {F : Env → qf → Prop}
variable {fuel : Nat} {listed : Array Bool} {env : Env} {H H0 L : qf} {op : Op} {ty : TypeId} {pos : String} {after : Array Edge} {v : AV}
theorem aqp2 {d:Nat} {L0:qf} (i:Nat) (hi:ops[i]?=some ⟨some d,op,ty,pos,after,none⟩) (hB:q6n ops listed a i=true) (hd:DN d N) (h1:∀ G,V2 P N op ty (renv ⟨some d,op,ty,pos,after,none⟩ env) (H0++(L0++G)) v (H0++(L0++G)))
  (h:AAny P N B ops a (Pre H0 L0) F fuel (listed.setIfInBounds i true) ((d,v) :: env) H):AAny P N B ops a (Pre H0 L0) F (fuel+1) listed env H :=
 aq2 i hi hB hd Y15 h
theorem q14h {d j g:Nat} {want:Bool} {L0:qf} (i:Nat) (hi:ops[i]?=some ⟨some d,op,ty,pos,after,some (j,want)⟩) (hB:q6n ops listed a i=true) (hd:DN d N) (hj:(ops[j]?).bind (·.dst)=some g) (hb:get env g = .bool want)
  (h1:∀ G,V2 P N op ty (renv ⟨some d,op,ty,pos,after,some (j,want)⟩ env) (H0++(L0++G)) v (H0++(L0++G)))
  (h:AAny P N B ops a (Pre H0 L0) F fuel (listed.setIfInBounds i true) ((d,v) :: env) H):AAny P N B ops a (Pre H0 L0) F (fuel+1) listed env H :=
 aqy2 i hi hB hd hj hb Y15 h
end
end Go.Av
namespace Go.Av
open Go.Proofs
theorem qrc (a b c d:Int) (H:qf):AC Tryz.prog 153 [.int .i64 a,.int .i64 b,.int .i64 c,.int .i64 d] H (Ret (.bool (qla a b c d)) H):=by
 refine AC.body (N:=16) [.tmp 8] Tryz.func153 rfl rfl rfl (Nat.le_of_ble_eq_true rfl) fun B hB=>?_
 refine Zf ?_
 refine qn 8 (.bool (qla a b c d)) ?_ ?_
 ·refine Z2d ?_
  refine ao1 (by decide) (qxv (r:=max a c) rfl rfl rfl) ?_
  refine Z2d ?_
  refine ao1 (by decide) (q10y (r:=min b d) rfl rfl rfl) ?_
  refine Zu ?_
  refine Zd ?_
  exact Z10
 exact Z21
theorem qoa (h:Held) (H:qf) (hw:h.things.length≤1000000):AC Tryz.prog 111 [.agg (qi h)] H (Ret (.bool (hmay h)) H):=by
 refine AC.body (N:=29) [.tmp 2] Tryz.func111 rfl rfl rfl (Nat.le_of_ble_eq_true rfl) fun B hB=>?_
 refine Zbv ?_
 refine Z2j ?_
 refine qn 2 (.bool (hmay h)) ?_ ?_
 ·refine Z3v ?_
  refine Z3x ?_
  refine Z2b ?_
  refine Zh ?_
  refine qb rfl rfl (fun hg4=>?_) (fun hg4=>?_)
  ·refine Z6z ?_
   refine Zbw ?_
   refine Z2q ?_
   refine qb rfl rfl (fun hg9=>?_) (fun hg9=>?_)
   ·refine Z2o ?_
    refine Z50 ?_
    refine Z2q ?_
    refine qb rfl rfl (fun hg14=>?_) (fun hg14=>?_)
    ·refine Z2o ?_
     refine Z50 ?_
     refine Z2q ?_
     refine qb rfl rfl (fun hg19=>?_) (fun hg19=>?_)
     ·refine Z4i ?_
      refine Zk ?_
      refine Zn ?_
      exact Zbx
     ·refine Z4k ?_
      exact Zby
    ·refine Z2s ?_
     refine Z4k ?_
     exact Zby
   ·refine Z34 ?_
    refine Z4k ?_
    exact Zbx
  ·refine Z34 ?_
   refine Z2s ?_
   refine Z4k ?_
   exact Zbx
 exact Z21
theorem qrz (a b:Held) (H:qf) (ha:a.things.length≤1000000) (hb:b.things.length≤1000000):AC Tryz.prog 114 [.agg (qi a),.agg (qi b)] H (Ret (.bool (q5y a b)) H):=by
 refine AC.body (N:=22) [.tmp 4] Tryz.func114 rfl rfl rfl (Nat.le_of_ble_eq_true rfl) fun B hB=>?_
 refine Zbv ?_
 refine Zbu ?_
 refine Z6u ?_
 refine qn 4 (.bool (q5y a b)) ?_ ?_
 ·refine Z6v ?_
  refine Z6v ?_
  refine Zbz ?_
  refine Zh ?_
  refine qb rfl rfl (fun hg9=>?_) (fun hg9=>?_)
  ·refine Z70 ?_
   refine q5r rfl rfl (by decide) (V2.call (qtj _ _ (by omega) (by omega) _) rfl) ?_
   refine Z1w ?_
   refine Zn ?_
   exact Zc0
  ·refine Zc1 ?_
   exact Zc0
 exact Z21
theorem qkx (x y:Held) (ia:Nat) (H:qf) (hx:x.things.length≤1000000) (hy:y.things.length≤1000000) (ha:H[ia]?=some ⟨0,4,[qi y]⟩):AC Tryz.prog 113 [.agg (qi x),.pt ia 0 0 0] H (Ret (.bool (q5y x y)) H):=by
 have hF:=ha
 refine AC.body (N:=7) [.tmp 3] Tryz.func113 rfl rfl rfl (Nat.le_of_ble_eq_true rfl) fun B hB=>?_
 refine Zbv ?_
 refine Z2i ?_
 refine Z37 ?_
 refine Zc2 ?_
 refine Zc3 ?_
 exact Z1s
theorem qce (l:List Held) (h:Held) (ia:Nat) (H:qf) (hl:HW l) (hy:h.things.length≤1000000) (ha:H[ia]?=some ⟨0,4,[qi h]⟩) :
  AC Tryz.prog 152 [.pl (l.map qi),.fn (.func 113) [] [.pt ia 0 0 0]] H (Ret (.int .i64 (ixf (fun x=>q5y x h) l)) H):=by
 have hl1:=hl.1
 refine AC.body (N:=19) [.tmp 4] Tryz.func152 rfl rfl rfl (Nat.le_of_ble_eq_true rfl) fun B hB=>?_
 refine Z7c ?_
 refine qm (G:=Nat) (fun k=>k≤l.length∧∀ y∈l.take k,q5y y h=false) (fun k=>[(0,.pl (l.map qi)),(1,.fn (.func 113) [] [.pt ia 0 0 0]),(7,.int .i64 (l.length:Int)),(8,.int .i64 (k:Int))]) (fun _=>H++[]) (fun k=>l.length-k) 0 ⟨Nat.zero_le _,by simp⟩ Y8 (Fit.refl _ _) ?_
 rintro k ⟨hk,hno⟩
 refine Z43 ?_
 refine qa rfl (fun hc=>?_) (fun hc=>?_)
 ·have hlt:k<l.length:=by simp at hc;omega
  obtain ⟨x,hx,hxl⟩:=qo hlt
  have hr:=ql qi hx
  have hxw:=hl.2 x hxl
  refine Z1c ?_
  refine Z1u ?_
  refine Zbh ?_
  refine Z9d ?_
  refine qix (qkx x h ia _ hxw hy (lkF ha)) rfl rfl (by decide) ?_
  refine Z9 ?_
  refine qa rfl (fun hc=>?_) (fun hc=>?_)
  ·refine Z1v ?_
   rw [qbj (p:=fun x:Held=>q5y x h) hx hc hno]
   exact Zb
  ·refine Z4f ?_
   refine ⟨k+1,by omega,⟨by omega,?_⟩,Y8,.refl _ _⟩
   rw [qj hx]
   intro y hy
   rcases List.mem_append.1 hy with h | h
   ·exact hno y h
   ·simp only [List.mem_singleton] at h
    subst h
    exact hc
 ·have:k=l.length:=by simp at hc;omega
  subst this
  rw [List.take_length] at hno
  rw [qax hno]
  exact Z18
theorem q9l (l:List Held) (h:Held) (ia:Nat) (H:qf) (hl:HW l) (hy:h.things.length≤1000000) (ha:H[ia]?=some ⟨0,4,[qi h]⟩) :
  AC Tryz.prog 112 [.pl (l.map qi),.fn (.func 113) [] [.pt ia 0 0 0]] H (Ret (.bool (l.any fun x=>q5y x h)) H):=by
 refine AC.body (N:=9) [.tmp 4] Tryz.func112 rfl rfl rfl (Nat.le_of_ble_eq_true rfl) fun B hB=>?_
 refine Z1q ?_
 refine Z3h ?_
 refine Z1t ?_
 refine ao2 Y1o (V2.call (qce l h ia _ hl hy (lkF ha)) rfl) ?_
 refine Z1r ?_
 refine Zbi ?_
 refine Z1 ?_
 rw [← q7e]
 exact Zb
set_option maxHeartbeats 0 in
theorem qhd (l:List Held) (H:qf) (hl:HW l):AC Tryz.prog 68 [.pl (l.map qi)] H (Ret (.bool (q29 l)) H):=by
 have hl1:=hl.1
 refine AC.body (N:=41) [.tmp 2] Tryz.func68 rfl rfl rfl (Nat.le_of_ble_eq_true rfl) fun B hB=>?_
 refine Z6b ?_
 refine Z2c ?_
 refine qa rfl (fun hc=>?_) (fun hc=>?_)
 ·have h256:¬ l.length≤256:=by simp at hc;omega
  refine Zf ?_
  rw [show q29 l=false by rw [q29,decide_eq_false h256,Bool.false_and]]
  exact Zb
 have h256:l.length≤256:=by simp at hc;omega
 rw [show q29 l=qnx (qcn l) l.length by rw [q29,decide_eq_true h256,Bool.true_and]]
 refine Z7b ?_
 refine qm (G:=Nat) (fun i=>i≤l.length∧∀ k,k<i→qcn l k=true) (fun i=>[(0,.pl (l.map qi)),(8,.pl (l.map qi)),(9,.int .i64 (l.length:Int)),(10,.int .i64 (i:Int))]) (fun _=>H++[]) (fun i=>l.length-i) 0 ⟨Nat.zero_le _,fun k hk=>by omega⟩ Y8 (Fit.refl _ _) ?_
 rintro i ⟨hi,hno⟩
 refine Z43 ?_
 refine qa rfl (fun hc=>?_) (fun hc=>?_)
 ·have hlt:i<l.length:=by simp at hc;omega
  obtain ⟨h,hh,hhl⟩:=qo hlt
  have hr:=ql qi hh
  have hw:=hl.2 h hhl
  have hB2:=qv6 hh
  have hno0:=hno
  have hli:((l.map qi).take i)=(l.take i).map qi:=by rw [List.map_take]
  clear hno hc
  refine Z9e ?_
  refine Z77 ?_
  refine Z3 ?_
  refine Zc4 ?_
  refine Z9h ?_
  clear hr
  by_cases h0:0<i
  ·obtain ⟨h1,hh1,_⟩:=qo (l:=l) (k:=i-1) (by omega)
   have hr1:=ql qi hh1
   rw [qhh hh1,decide_eq_true h0,Bool.true_and] at hB2
   clear hh hhl hh1
   refine Z1 ?_
   refine q1n 39 (.bool (!qcn l i)) ?_ ?_
   ·refine Z9j ?_
    refine Zc5 ?_
    refine Zc6 ?_
    refine Zc7 ?_
    refine Z7q ?_
    refine q13 (g:=18) rfl (fun hg3=>?_) (fun hg3=>?_)
    ·refine Zc8 ?_
     refine Zc9 ?_
     refine Zca ?_
     refine Zcb ?_
     refine Zcc ?_
     refine Zcd ?_
     refine Zce ?_
     refine Zcf ?_
     refine Zcg ?_
     refine Zch ?_
     refine Zci ?_
     refine Zcj ?_
     refine Zck ?_
     refine Zcl ?_
     refine Zcm ?_
     refine Zcn ?_
     refine Zco ?_
     refine Zcp ?_
     refine Zcq ?_
     refine Zcr ?_
     refine Zcs ?_
     exact Zct
    ·refine Zcu ?_
     refine Zcv ?_
     refine Zcw ?_
     refine q13 (g:=21) rfl (fun hg6=>?_) (fun hg6=>?_)
     ·refine q2x (g:=21) 7 rfl Y1v (by decide) rfl rfl (fun G=>qc rfl (lk rfl rfl) rfl (by decide)) ?_
      refine q2x (g:=21) 8 rfl Y1v (by decide) rfl rfl (fun G=>qh (v:=.int _ _) rfl (lk rfl rfl) rfl rfl rfl) ?_
      refine q2s (g:=21) 9 rfl Y1v (by decide) rfl rfl (fun _=>qk (v:=.pl _) rfl) ?_
      refine Zcx ?_
      refine q2s (g:=21) 11 rfl Y1v (by decide) rfl rfl (fun _=>q3e (r:=((i-1:Nat):Int)) rfl rfl Y6) ?_
      refine q2x (g:=21) 12 rfl Y1v (by decide) rfl rfl (fun G=>qz rfl rfl hr1 rfl) ?_
      refine q2x (g:=21) 13 rfl Y1v (by decide) rfl rfl (fun G=>q4s rfl (by decide)) ?_
      refine q2x (g:=21) 14 rfl Y1v (by decide) rfl rfl (fun G=>q2m (v:=.int _ _) rfl hr1 rfl) ?_
      refine q2s (g:=21) 15 rfl Y1v (by decide) rfl rfl (fun _=>o_le rfl rfl) ?_
      refine q2s (g:=18) 16 rfl Y1v (by decide) rfl rfl (fun _=>q1q (v:=.bool _) rfl rfl) ?_
      refine Zcy ?_
      refine Zcm ?_
      refine q13 (g:=33) rfl (fun hg18=>?_) (fun hg18=>?_)
      ·refine Zcn ?_
       refine Zco ?_
       refine Zcp ?_
       refine Zcq ?_
       refine Zcr ?_
       refine Zcs ?_
       exact Zct
      ·refine Zcz ?_
       refine Zd0 ?_
       refine Zd1 ?_
       refine Zd2 ?_
       refine Zd3 ?_
       refine Zd4 ?_
       exact q1y Y1v Y1f (Out.mk (by (refine congrArg AV.bool ?_;(rw [hB2];clear hB hr1 hB2 hno0 hli;(simp_all;omega)))) Yb)
     ·refine Zd5 ?_
      refine Zd6 ?_
      refine Zd7 ?_
      refine Zd8 ?_
      refine Zd9 ?_
      refine Zda ?_
      refine Zdb ?_
      refine Zdc ?_
      refine Zdd ?_
      refine Zde ?_
      refine Zcy ?_
      refine Zcm ?_
      refine Zcz ?_
      refine Zd0 ?_
      refine Zd1 ?_
      refine Zd2 ?_
      refine Zd3 ?_
      refine Zd4 ?_
      exact Zct
   refine Z1 ?_
   refine qa rfl (fun hc=>?_) (fun hc=>?_)
   ·have hbad:qcn l i=false:=by simpa only [Bool.not_eq_true'] using hc
    refine Zf ?_
    rw [q41 hlt hbad]
    exact Zb
   ·have hgood:qcn l i=true:=by simpa only [Bool.not_eq_false'] using hc
    refine Z4f ?_
    refine ⟨i+1,by omega,⟨by omega,fun k hk=>?_⟩,Y8,Fit.loc hB (L:=[]) rfl Y1 (fun o ho=>by simp at ho)⟩
    rcases Nat.lt_or_eq_of_le (Nat.le_of_lt_succ hk) with h | h
    ·exact hno0 k h
    ·subst h;exact hgood
  ·rw [decide_eq_false h0,Bool.false_and,Bool.not_false,Bool.and_true] at hB2
   clear hh hhl
   refine Z1 ?_
   refine q1n 39 (.bool (!qcn l i)) ?_ ?_
   ·refine Z9j ?_
    refine Zc5 ?_
    refine Zc6 ?_
    refine Zc7 ?_
    refine Z7q ?_
    refine q13 (g:=18) rfl (fun hg3=>?_) (fun hg3=>?_)
    ·refine Zc8 ?_
     refine Zc9 ?_
     refine Zca ?_
     refine Zcb ?_
     refine Zcc ?_
     refine Zcd ?_
     refine Zce ?_
     refine Zcf ?_
     refine Zcg ?_
     refine Zch ?_
     refine Zci ?_
     refine Zcj ?_
     refine Zck ?_
     refine Zcl ?_
     refine Zcm ?_
     refine Zcn ?_
     refine Zco ?_
     refine Zcp ?_
     refine Zcq ?_
     refine Zcr ?_
     refine Zcs ?_
     exact Zdf
    ·refine Zcu ?_
     refine Zcv ?_
     refine Zcw ?_
     refine q13 (g:=21) rfl (fun hg6=>?_) (fun hg6=>?_)
     ·exfalso;simp at hg6;omega
     ·refine Zd5 ?_
      refine Zd6 ?_
      refine Zd7 ?_
      refine Zd8 ?_
      refine Zd9 ?_
      refine Zda ?_
      refine Zdb ?_
      refine Zdc ?_
      refine Zdd ?_
      refine Zde ?_
      refine Zcy ?_
      refine Zcm ?_
      refine Zcz ?_
      refine Zd0 ?_
      refine Zd1 ?_
      refine Zd2 ?_
      refine Zd3 ?_
      refine Zd4 ?_
      exact Zdf
   refine Z1 ?_
   refine qa rfl (fun hc=>?_) (fun hc=>?_)
   ·have hbad:qcn l i=false:=by simpa only [Bool.not_eq_true'] using hc
    refine Zf ?_
    rw [q41 hlt hbad]
    exact Zb
   ·have hgood:qcn l i=true:=by simpa only [Bool.not_eq_false'] using hc
    refine Z4f ?_
    refine ⟨i+1,by omega,⟨by omega,fun k hk=>?_⟩,Y8,Fit.loc hB (L:=[]) rfl Y1 (fun o ho=>by simp at ho)⟩
    rcases Nat.lt_or_eq_of_le (Nat.le_of_lt_succ hk) with h | h
    ·exact hno0 k h
    ·subst h;exact hgood
 ·have:i=l.length:=by simp at hc;omega
  subst this
  refine Zf ?_
  rw [q4e hno]
  exact Zb
theorem qfq (x:Held) (id:Int) (H:qf):AC Tryz.prog 191 [.agg (qi x),.int .i64 id] H (Ret (.int .i64 (qgt x.id id)) H):=by
 refine AC.body (N:=9) [.tmp 4] Tryz.func191 rfl rfl rfl (Nat.le_of_ble_eq_true rfl) fun B hB=>?_
 refine Zbv ?_
 refine Z35 ?_
 refine Z5v ?_
 refine Zdg ?_
 refine Z3c ?_
 exact Z21
set_option maxHeartbeats 0 in
theorem qmz (l:List Held) (id:Int) (H:qf) (hl:l.length≤1000000) (hs:l.Pairwise (fun a b=>a.id<b.id)) :
  AC Tryz.prog 190 [.pl (l.map qi),.int .i64 id,.fn (.func 191) [] []] H (Ret (.tup [.int .i64 (q2g l id:Int),.bool (q2u l id)]) H):=by
 have hle:=qt1 (f:=Held.id) l id
 refine AC.body (N:=49) [.tmp 6,.tmp 7] Tryz.func190 rfl rfl rfl (Nat.le_of_ble_eq_true rfl) fun B hB=>?_
 refine Z2 ?_
 refine Z61 ?_
 refine Z6a ?_
 refine Z4 ?_
 refine Z11 ?_
 refine Z15 ?_
 refine Z1d ?_
 refine qm (G:=LH) (fun g=>g.lo≤q9e Held.id l id∧q9e Held.id l id≤g.hi∧g.hi≤l.length) (fun g=>[(0,.pl (l.map qi)),(1,.int .i64 id),(2,.fn (.func 191) [] []),(8,.int .i64 ((l.map qi).length:Int)),(9,.int .i64 (g.lo:Int)),(10,.int .i64 (g.hi:Int))]) (fun _=>H++[]) (fun g=>g.hi-g.lo) ⟨0,(l.map qi).length⟩ ⟨Nat.zero_le _,by simp only [List.length_map];exact hle,by simp⟩ Y8 (Fit.refl _ _) ?_
 rintro ⟨lo,hi⟩ ⟨i1,i2,i3⟩
 simp only at i1 i2 i3 ⊢
 refine Z2a ?_
 refine qa rfl (fun hc=>?_) (fun hc=>?_)
 ·have hlt:lo<hi:=by simpa using hc
  obtain ⟨x,hx,hxl⟩:=qo (l:=l) (k:=(lo+hi) / 2) (by omega)
  have hr:=ql qi hx
  refine Z26 ?_
  refine Zdh ?_
  refine Zdi ?_
  refine Zdj ?_
  refine Zdk ?_
  refine Z4 ?_
  refine Z1u ?_
  refine Zbh ?_
  refine Z9d ?_
  refine Z8 ?_
  refine qix (qfq x id _) rfl rfl (by decide) ?_
  refine Z1f ?_
  refine qa rfl (fun hc=>?_) (fun hc=>?_)
  ·have hk:x.id<id:=by simp only [decide_eq_true_eq] at hc;unfold qgt at hc;split at hc<;>first | assumption | (split at hc<;>omega)
   have hp:(lo+hi) / 2+1≤q9e Held.id l id:=by
    rcases Nat.lt_or_ge ((lo+hi) / 2) (q9e Held.id l id) with h | h
    ·omega
    ·have:=qfi hs h hx;omega
   refine Z66 ?_
   refine Zdl ?_
   refine Za ?_
   exact ⟨⟨(lo+hi) / 2+1,hi⟩,by simp only;omega,⟨hp,i2,i3⟩,Y8,.refl _ _⟩
  ·have hk:id≤x.id:=by simp only [decide_eq_false_iff_not] at hc;unfold qgt at hc;split at hc<;>first | (exfalso;exact hc (by decide)) | omega
   have hp:q9e Held.id l id≤(lo+hi) / 2:=by
    rcases Nat.lt_or_ge ((lo+hi) / 2) (q9e Held.id l id) with h | h
    ·have:=qhz (f:=Held.id) h hx;omega
    ·exact h
   refine Z66 ?_
   refine Za ?_
   exact ⟨⟨lo,(lo+hi) / 2⟩,by simp only;omega,⟨i1,hp,by simp only;omega⟩,Y8,.refl _ _⟩
 ·have hlt:¬ lo<hi:=by simpa using hc
  obtain rfl:lo=q9e Held.id l id:=by omega
  have hml:(l.map qi).length=l.length:=by simp
  clear hc
  refine Z1 ?_
  refine q3x ([(6,.int .i64 (q2g l id:Int)),(7,.bool (q2u l id))]) (H++[]) ?_ ?_
  ·by_cases hn:q9e Held.id l id<l.length
   ·obtain ⟨x,hx,hxl⟩:=qo hn
    have hr:=ql qi hx
    have hh:q2u l id=(qgt x.id id == 0):=by
     rw [q2u,show q2g l id=q9e Held.id l id from rfl,decide_eq_true hn,Bool.true_and,qhh hx,Bool.eq_iff_iff]
     unfold qgt
     simp only [decide_eq_true_eq,beq_iff_eq]
     split
     ·omega
     ·split<;>omega
    refine q16 ?_
    refine Z2d ?_
    refine Zw ?_
    refine qb rfl rfl (fun hg4=>?_) (fun hg4=>?_)
    ·refine Zdm ?_
     refine Z99 ?_
     refine Zj ?_
     refine Zdn ?_
     refine Z9c ?_
     refine Zj ?_
     refine q5r rfl rfl (by decide) (V2.callv (qfq x id _) rfl rfl) ?_
     refine Z4r ?_
     refine Zm ?_
     refine Z61 ?_
     (exact q22 Y4 (.inl rfl))
    ·refine Zdo ?_
     refine Zs ?_
     refine Z61 ?_
     ((exfalso;simp at hg4;omega))
   ·have hh:q2u l id=false:=by rw [q2u,show q2g l id=q9e Held.id l id from rfl,decide_eq_false hn,Bool.false_and]
    refine q16 ?_
    refine Z2d ?_
    refine Zw ?_
    refine qb rfl rfl (fun hg4=>?_) (fun hg4=>?_)
    ·exfalso;simp at hg4;omega
    ·refine Zdo ?_
     refine Zs ?_
     refine Z61 ?_
     (exact q22 Y4 (.inl rfl))
  refine Z1 ?_
  exact Z5b
theorem qtp (l:List Held) (id:Int) (H:qf) (hl:l.length≤1000000) (hs:l.Pairwise (fun a b=>a.id<b.id)):AC Tryz.prog 155 [.pl (l.map qi),.int .i64 id] H (Ret (.tup [.int .i64 (q2g l id:Int),.bool (q2u l id)]) H):=by
 refine AC.body (N:=11) [.tmp 4,.tmp 5] Tryz.func155 rfl rfl rfl (Nat.le_of_ble_eq_true rfl) fun B hB=>?_
 refine Z2 ?_
 refine Z61 ?_
 refine Zau ?_
 refine q12 (qmz _ _ _ (by omega) Y23) rfl (by decide) ?_
 refine Z5z ?_
 refine Z55 ?_
 exact Z5b
theorem qfg (h:Held) (H:qf) (hw:h.things.length≤1000000):AC Tryz.prog 156 [.agg (qi h)] H (Ret (.agg (qi h)) H):=by
 refine AC.body (N:=8) [.cell 2 95] Tryz.func156 rfl rfl rfl (Nat.le_of_ble_eq_true rfl) fun B hB=>?_
 refine Zbv ?_
 refine Z77 ?_
 refine qe ?_
 refine Zdp ?_
 refine Z3w ?_
 refine Z5f ?_
 refine Z2k ?_
 refine Zdq ?_
 refine Z5i ?_
 refine Z37 ?_
 refine Zc4 ?_
 refine qe ?_
 refine Z5t ?_
 exact Zdr
theorem qy4 (l:List Held) (id:Int) (H:qf) (hw:HW l):AC Tryz.prog 115 [.pl (l.map qi),.int .i64 id] H (Ret (.tup [.agg (qi (q2d l id).1),.bool (q2d l id).2]) H):=by
 have hw1:=hw.1
 refine AC.body (N:=26) [.cell 4 95,.tmp 5] Tryz.func115 rfl rfl rfl (Nat.le_of_ble_eq_true rfl) fun B hB=>?_
 refine Z2 ?_
 refine Z77 ?_
 refine Z1p ?_
 refine Z78 ?_
 refine Z3h ?_
 refine Zds ?_
 refine Z39 ?_
 refine qa rfl (fun hc=>?_) (fun hc=>?_)
 ·have hno:q29 l=false:=by simpa only [Bool.not_eq_true'] using hc
  rw [show q2d l id=(qke,false) by rw [q2d,hno];rfl]
  refine Z2 ?_
  refine Zdt ?_
  refine Zc4 ?_
  refine Z1p ?_
  exact Zdv
 have hyes:q29 l=true:=by simpa only [Bool.not_eq_false'] using hc
 have hs:=q8u hyes
 refine Zau ?_
 refine Zdw ?_
 refine Zdx ?_
 refine qa rfl (fun hc=>?_) (fun hc=>?_)
 ·have hno:q2u l id=false:=by simpa only [Bool.not_eq_true'] using hc
  rw [show q2d l id=(qke,false) by rw [q2d,hyes,hno];rfl]
  refine Z2 ?_
  refine Zdt ?_
  refine Zc4 ?_
  refine Z1p ?_
  exact Zdv
 have hhit:q2u l id=true:=by simpa only [Bool.not_eq_false'] using hc
 have hn:q2g l id<l.length:=by simp only [q2u,Bool.and_eq_true,decide_eq_true_eq] at hhit;exact hhit.1
 obtain ⟨x,hx,hxl⟩:=qo hn
 have hr:=ql qi hx
 have hxw:=hw.2 x hxl
 rw [show q2d l id=(x,true) by rw [q2d,hyes,hhit,qcd hx];rfl]
 refine Zau ?_
 refine Z9d ?_
 refine Zdy ?_
 refine Zc4 ?_
 refine Z1p ?_
 refine Z7f ?_
 exact Z68
theorem qdj (x:Job) (id:Int) (H:qf):AC Tryz.prog 150 [.agg (qv x),.int .i64 id] H (Ret (.int .i64 (qgt x.id id)) H):=by
 refine AC.body (N:=9) [.tmp 4] Tryz.func150 rfl rfl rfl (Nat.le_of_ble_eq_true rfl) fun B hB=>?_
 refine Z3t ?_
 refine Z35 ?_
 refine Z5v ?_
 refine Zdg ?_
 refine Z3c ?_
 exact Z21
set_option maxHeartbeats 0 in
theorem qlr (l:List Job) (id:Int) (H:qf) (hl:l.length≤1000000) (hs:l.Pairwise (fun a b=>a.id<b.id)) :
  AC Tryz.prog 149 [.pl (l.map qv),.int .i64 id,.fn (.func 150) [] []] H (Ret (.tup [.int .i64 (q1e l id:Int),.bool (q2t l id)]) H):=by
 have hle:=qt1 (f:=Job.id) l id
 refine AC.body (N:=49) [.tmp 6,.tmp 7] Tryz.func149 rfl rfl rfl (Nat.le_of_ble_eq_true rfl) fun B hB=>?_
 refine Z2 ?_
 refine Z61 ?_
 refine Z6a ?_
 refine Z4 ?_
 refine Z11 ?_
 refine Z15 ?_
 refine Z1d ?_
 refine qm (G:=LH) (fun g=>g.lo≤q9e Job.id l id∧q9e Job.id l id≤g.hi∧g.hi≤l.length) (fun g=>[(0,.pl (l.map qv)),(1,.int .i64 id),(2,.fn (.func 150) [] []),(8,.int .i64 ((l.map qv).length:Int)),(9,.int .i64 (g.lo:Int)),(10,.int .i64 (g.hi:Int))]) (fun _=>H++[]) (fun g=>g.hi-g.lo) ⟨0,(l.map qv).length⟩ ⟨Nat.zero_le _,by simp only [List.length_map];exact hle,by simp⟩ Y8 (Fit.refl _ _) ?_
 rintro ⟨lo,hi⟩ ⟨i1,i2,i3⟩
 simp only at i1 i2 i3 ⊢
 refine Z2a ?_
 refine qa rfl (fun hc=>?_) (fun hc=>?_)
 ·have hlt:lo<hi:=by simpa using hc
  obtain ⟨x,hx,hxl⟩:=qo (l:=l) (k:=(lo+hi) / 2) (by omega)
  have hr:=ql qv hx
  refine Z26 ?_
  refine Zdh ?_
  refine Zdi ?_
  refine Zdj ?_
  refine Zdk ?_
  refine Z4 ?_
  refine Z1u ?_
  refine Zbh ?_
  refine Z9d ?_
  refine Z8 ?_
  refine qix (qdj x id _) rfl rfl (by decide) ?_
  refine Z1f ?_
  refine qa rfl (fun hc=>?_) (fun hc=>?_)
  ·have hk:x.id<id:=by simp only [decide_eq_true_eq] at hc;unfold qgt at hc;split at hc<;>first | assumption | (split at hc<;>omega)
   have hp:(lo+hi) / 2+1≤q9e Job.id l id:=by
    rcases Nat.lt_or_ge ((lo+hi) / 2) (q9e Job.id l id) with h | h
    ·omega
    ·have:=qfi hs h hx;omega
   refine Z66 ?_
   refine Zdl ?_
   refine Za ?_
   exact ⟨⟨(lo+hi) / 2+1,hi⟩,by simp only;omega,⟨hp,i2,i3⟩,Y8,.refl _ _⟩
  ·have hk:id≤x.id:=by simp only [decide_eq_false_iff_not] at hc;unfold qgt at hc;split at hc<;>first | (exfalso;exact hc (by decide)) | omega
   have hp:q9e Job.id l id≤(lo+hi) / 2:=by
    rcases Nat.lt_or_ge ((lo+hi) / 2) (q9e Job.id l id) with h | h
    ·have:=qhz (f:=Job.id) h hx;omega
    ·exact h
   refine Z66 ?_
   refine Za ?_
   exact ⟨⟨lo,(lo+hi) / 2⟩,by simp only;omega,⟨i1,hp,by simp only;omega⟩,Y8,.refl _ _⟩
 ·have hlt:¬ lo<hi:=by simpa using hc
  obtain rfl:lo=q9e Job.id l id:=by omega
  have hml:(l.map qv).length=l.length:=by simp
  clear hc
  refine Z1 ?_
  refine q3x ([(6,.int .i64 (q1e l id:Int)),(7,.bool (q2t l id))]) (H++[]) ?_ ?_
  ·by_cases hn:q9e Job.id l id<l.length
   ·obtain ⟨x,hx,hxl⟩:=qo hn
    have hr:=ql qv hx
    have hh:q2t l id=(qgt x.id id == 0):=by
     rw [q2t,show q1e l id=q9e Job.id l id from rfl,decide_eq_true hn,Bool.true_and,qlh hx,Bool.eq_iff_iff]
     unfold qgt
     simp only [decide_eq_true_eq,beq_iff_eq]
     split
     ·omega
     ·split<;>omega
    refine q16 ?_
    refine Z2d ?_
    refine Zw ?_
    refine qb rfl rfl (fun hg4=>?_) (fun hg4=>?_)
    ·refine Zdm ?_
     refine Z99 ?_
     refine Zj ?_
     refine Zdn ?_
     refine Z9c ?_
     refine Zj ?_
     refine q5r rfl rfl (by decide) (V2.callv (qdj x id _) rfl rfl) ?_
     refine Z4r ?_
     refine Zm ?_
     refine Z61 ?_
     (exact q22 Y4 (.inl rfl))
    ·refine Zdo ?_
     refine Zs ?_
     refine Z61 ?_
     ((exfalso;simp at hg4;omega))
   ·have hh:q2t l id=false:=by rw [q2t,show q1e l id=q9e Job.id l id from rfl,decide_eq_false hn,Bool.false_and]
    refine q16 ?_
    refine Z2d ?_
    refine Zw ?_
    refine qb rfl rfl (fun hg4=>?_) (fun hg4=>?_)
    ·exfalso;simp at hg4;omega
    ·refine Zdo ?_
     refine Zs ?_
     refine Z61 ?_
     (exact q22 Y4 (.inl rfl))
  refine Z1 ?_
  exact Z5b
theorem qqa (l:List Job) (id:Int) (H:qf) (hl:l.length≤1000000) (hs:l.Pairwise (fun a b=>a.id<b.id)):AC Tryz.prog 110 [.pl (l.map qv),.int .i64 id] H (Ret (.tup [.int .i64 (q1e l id:Int),.bool (q2t l id)]) H):=by
 refine AC.body (N:=11) [.tmp 4,.tmp 5] Tryz.func110 rfl rfl rfl (Nat.le_of_ble_eq_true rfl) fun B hB=>?_
 refine Z2 ?_
 refine Z61 ?_
 refine Zau ?_
 refine q12 (qlr _ _ _ (by omega) Y23) rfl (by decide) ?_
 refine Z5z ?_
 refine Z55 ?_
 exact Z5b
theorem qdy (l:List Job):∀ r∈l.map qv,r.length=13:=q52 (e:=qv) (n:=13) (fun _=>rfl) l
theorem q2a (n:Nat) (l:List Job):∀ r∈l.map qv,AV.bels n r=true:=q5a (e:=qv) (fun _=>rfl) l
set_option maxHeartbeats 0 in
theorem qfk (l:List Job) (H:qf) (hl:l.length≤1000000):AC Tryz.prog 67 [.pl (l.map qv)] H (Ret (.bool (q2v l)) H):=by
 refine AC.body (N:=67) [.tmp 2] Tryz.func67 rfl rfl rfl (Nat.le_of_ble_eq_true rfl) fun B hB=>?_
 refine Z6b ?_
 refine Z2c ?_
 refine qa rfl (fun hc=>?_) (fun hc=>?_)
 ·have h64:¬ l.length≤64:=by simp at hc;omega
  refine Zf ?_
  rw [show q2v l=false by rw [q2v,decide_eq_false h64,Bool.false_and]]
  exact Zb
 have h64:l.length≤64:=by simp at hc;omega
 rw [show q2v l=qnx (qo4 l) l.length by rw [q2v,decide_eq_true h64,Bool.true_and]]
 refine Z7b ?_
 refine qm (G:=Nat) (fun i=>i≤l.length∧∀ k,k<i→qo4 l k=true) (fun i=>[(0,.pl (l.map qv)),(12,.pl (l.map qv)),(13,.int .i64 (l.length:Int)),(14,.int .i64 (i:Int))]) (fun _=>H++[]) (fun i=>l.length-i) 0 ⟨Nat.zero_le _,fun k hk=>by omega⟩ Y8 (Fit.refl _ _) ?_
 rintro i ⟨hi,hno⟩
 refine Z43 ?_
 refine qa rfl (fun hc=>?_) (fun hc=>?_)
 ·have hlt:i<l.length:=by simp at hc;omega
  obtain ⟨j,hj,hjl⟩:=qo hlt
  have hr:=ql qv hj
  have hB2:=qyd hj
  have hno0:=hno
  have hli:((l.map qv).take i)=(l.take i).map qv:=by rw [List.map_take]
  have hs:=qdl h64 hno
  have htl:(l.take i).length≤1000000:=by rw [List.length_take];omega
  clear hno hc
  refine Z9e ?_
  refine Z5d ?_
  refine Z3 ?_
  refine Z5q ?_
  refine Z9h ?_
  clear hr
  refine Z1 ?_
  refine q3x ([(0,.pl (l.map qv)),(3,.int .i64 (i:Int)),(4,.pt (Lid H.length 0) 0 0 0),(12,.pl (l.map qv)),(13,.int .i64 (l.length:Int)),(14,.int .i64 (i:Int)),(47,.bool (!(q28 j&&!(decide (0<i)&&(decide (j.id≤qfz l (i-1))||decide (j.came<(q36 l (i-1)).came))))))]) (H++[⟨0,13,[qv j]⟩]) ?_ ?_
  ·by_cases h0:0<i
   ·obtain ⟨h1,hh1,_⟩:=qo (l:=l) (k:=i-1) (by omega)
    have hr1:=ql qv hh1
    rw [qlh hh1,q1z hh1,decide_eq_true h0,Bool.true_and]
    clear hB2 hno0 hj hjl hs hh1
    refine q1n 47 (.bool (!(q28 j&&!((decide (j.id≤h1.id)||decide (j.came<h1.came)))))) ?_ ?_
    ·refine Z9j ?_
     refine Zc5 ?_
     refine Zdz ?_
     refine Zc7 ?_
     refine Z7q ?_
     refine q13 (g:=22) rfl (fun hg3=>?_) (fun hg3=>?_)
     ·refine Ze0 ?_
      refine Ze1 ?_
      refine Ze2 ?_
      refine Ze3 ?_
      refine Ze4 ?_
      refine Ze5 ?_
      refine Ze6 ?_
      refine Ze7 ?_
      refine Ze8 ?_
      refine Ze9 ?_
      refine Zea ?_
      refine Zeb ?_
      refine Zec ?_
      refine Zed ?_
      refine Zee ?_
      refine Zef ?_
      refine Zeg ?_
      refine Zeh ?_
      refine Zei ?_
      refine Zej ?_
      refine Zek ?_
      refine Zel ?_
      refine Zem ?_
      refine Zen ?_
      refine Zeo ?_
      exact Zep
     ·refine Zeq ?_
      refine Zer ?_
      refine Zes ?_
      refine q13 (g:=25) rfl (fun hg6=>?_) (fun hg6=>?_)
      ·refine q2x (g:=25) 7 rfl Y1v (by decide) rfl rfl (fun G=>qc rfl (lk rfl rfl) rfl (by decide)) ?_
       refine q2x (g:=25) 8 rfl Y1v (by decide) rfl rfl (fun G=>qh (v:=.int _ _) rfl (lk rfl rfl) rfl rfl rfl) ?_
       refine q2s (g:=25) 9 rfl Y1v (by decide) rfl rfl (fun _=>qk (v:=.pl _) rfl) ?_
       refine q2s (g:=25) 10 rfl Y1v (by decide) rfl rfl (fun _=>qk (v:=.int _ _) rfl) ?_
       refine q2s (g:=25) 11 rfl Y1v (by decide) rfl rfl (fun _=>q3e (r:=((i-1:Nat):Int)) rfl rfl Y6) ?_
       refine q2x (g:=25) 12 rfl Y1v (by decide) rfl rfl (fun G=>qz rfl rfl hr1 rfl) ?_
       refine q2x (g:=25) 13 rfl Y1v (by decide) rfl rfl (fun G=>q4s rfl (by decide)) ?_
       refine q2x (g:=25) 14 rfl Y1v (by decide) rfl rfl (fun G=>q2m (v:=.int _ _) rfl hr1 rfl) ?_
       refine q2s (g:=25) 15 rfl Y1v (by decide) rfl rfl (fun _=>o_le rfl rfl) ?_
       refine q2s (g:=25) 16 rfl Y1v (by decide) rfl rfl (fun _=>qk (v:=.bool _) rfl) ?_
       refine q13 (g:=35) rfl (fun hg16=>?_) (fun hg16=>?_)
       ·refine q17 (g:=35) 17 rfl Y1v (by decide) rfl rfl rfl ?_
        refine q17 (g:=35) 18 rfl Y1v (by decide) rfl rfl rfl ?_
        refine q17 (g:=35) 19 rfl Y1v (by decide) rfl rfl rfl ?_
        refine q17 (g:=35) 20 rfl Y1v (by decide) rfl rfl rfl ?_
        refine q17 (g:=35) 21 rfl Y1v (by decide) rfl rfl rfl ?_
        refine q17 (g:=35) 22 rfl Y1v (by decide) rfl rfl rfl ?_
        refine q17 (g:=35) 23 rfl Y1v (by decide) rfl rfl rfl ?_
        refine q17 (g:=35) 24 rfl Y1v (by decide) rfl rfl rfl ?_
        refine q17 (g:=35) 25 rfl Y1v (by decide) rfl rfl rfl ?_
        refine q2s (g:=25) 26 rfl Y1v (by decide) rfl rfl (fun _=>q1q (v:=.bool _) rfl rfl) ?_
        refine Zet ?_
        refine Zeu ?_
        exact Zep
       ·refine q2x (g:=35) 17 rfl Y1v (by decide) rfl rfl (fun G=>qc rfl (lk rfl rfl) rfl (by decide)) ?_
        refine q2x (g:=35) 18 rfl Y1v (by decide) rfl rfl (fun G=>qh (v:=.int _ _) rfl (lk rfl rfl) rfl rfl rfl) ?_
        refine q2s (g:=35) 19 rfl Y1v (by decide) rfl rfl (fun _=>qk (v:=.pl _) rfl) ?_
        refine q2s (g:=35) 20 rfl Y1v (by decide) rfl rfl (fun _=>qk (v:=.int _ _) rfl) ?_
        refine q2s (g:=35) 21 rfl Y1v (by decide) rfl rfl (fun _=>q3e (r:=((i-1:Nat):Int)) rfl rfl Y6) ?_
        refine q2x (g:=35) 22 rfl Y1v (by decide) rfl rfl (fun G=>qz rfl rfl hr1 rfl) ?_
        refine q2x (g:=35) 23 rfl Y1v (by decide) rfl rfl (fun G=>q4s rfl (by decide)) ?_
        refine q2x (g:=35) 24 rfl Y1v (by decide) rfl rfl (fun G=>q2m (v:=.int _ _) rfl hr1 rfl) ?_
        refine q2s (g:=35) 25 rfl Y1v (by decide) rfl rfl (fun _=>qzd rfl rfl) ?_
        refine q2s (g:=25) 26 rfl Y1v (by decide) rfl rfl (fun _=>q1r (v:=.bool _) rfl rfl) ?_
        refine Zet ?_
        refine Zeu ?_
        exact q1y Y1v Y1f (Out.mk (by (refine congrArg AV.bool ?_;(clear hB hr1 hli;(simp_all;omega)))) Yb)
      ·refine Zev ?_
       refine Zew ?_
       refine Zex ?_
       refine Zey ?_
       refine Zez ?_
       refine Zf0 ?_
       refine Zf1 ?_
       refine Zf2 ?_
       refine Zf3 ?_
       refine Zf4 ?_
       refine Zed ?_
       refine Zee ?_
       refine Zef ?_
       refine Zeg ?_
       refine Zeh ?_
       refine Zei ?_
       refine Zej ?_
       refine Zek ?_
       refine Zel ?_
       refine Zf5 ?_
       refine Zf6 ?_
       refine Zeu ?_
       exact Zep
    exact q22 Y8 (.inl rfl)
   ·rw [decide_eq_false h0,Bool.false_and,Bool.not_false,Bool.and_true]
    clear hB2 hno0 hj hjl hs
    refine q1n 47 (.bool (!q28 j)) ?_ ?_
    ·refine Z9j ?_
     refine Zc5 ?_
     refine Zdz ?_
     refine Zc7 ?_
     refine Z7q ?_
     refine q13 (g:=22) rfl (fun hg3=>?_) (fun hg3=>?_)
     ·refine Ze0 ?_
      refine Ze1 ?_
      refine Ze2 ?_
      refine Ze3 ?_
      refine Ze4 ?_
      refine Ze5 ?_
      refine Ze6 ?_
      refine Ze7 ?_
      refine Ze8 ?_
      refine Ze9 ?_
      refine Zea ?_
      refine Zeb ?_
      refine Zec ?_
      refine Zed ?_
      refine Zee ?_
      refine Zef ?_
      refine Zeg ?_
      refine Zeh ?_
      refine Zei ?_
      refine Zej ?_
      refine Zek ?_
      refine Zel ?_
      refine Zem ?_
      refine Zen ?_
      refine Zeo ?_
      exact Zf7
     ·refine Zeq ?_
      refine Zer ?_
      refine Zes ?_
      refine q13 (g:=25) rfl (fun hg6=>?_) (fun hg6=>?_)
      ·exfalso;simp at hg6;omega
      ·refine Zev ?_
       refine Zew ?_
       refine Zex ?_
       refine Zey ?_
       refine Zez ?_
       refine Zf0 ?_
       refine Zf1 ?_
       refine Zf2 ?_
       refine Zf3 ?_
       refine Zf4 ?_
       refine Zed ?_
       refine Zee ?_
       refine Zef ?_
       refine Zeg ?_
       refine Zeh ?_
       refine Zei ?_
       refine Zej ?_
       refine Zek ?_
       refine Zel ?_
       refine Zf5 ?_
       refine Zf6 ?_
       refine Zeu ?_
       exact Zf7
    exact q22 Y8 (.inl rfl)
  refine Z1 ?_
  refine qa rfl (fun hc=>?_) (fun hc=>?_)
  ·have hbad:qo4 l i=false:=by rw [hB2];rw [Bool.not_eq_true'] at hc;rw [hc,Bool.false_and]
   refine Zf ?_
   rw [q41 hlt hbad]
   exact Zb
  have hgd:(q28 j&&!(decide (0<i)&&(decide (j.id≤qfz l (i-1))||decide (j.came<(q36 l (i-1)).came))))=true:=by simpa only [Bool.not_eq_false'] using hc
  have hjr:q28 j=true:=by rw [Bool.and_eq_true] at hgd;exact hgd.1
  have hn16:=ql1 hjr
  rw [hgd,Bool.true_and] at hB2
  clear hc hgd
  refine Z3w ?_
  refine Z42 ?_
  refine qm (G:=Nat) (fun k=>k≤j.needs.length∧∀ n∈j.needs.take k,q2t (l.take i) n=true) (fun k=>[(0,.pl (l.map qv)),(3,.int .i64 (i:Int)),(12,.pl (l.map qv)),(13,.int .i64 (l.length:Int)),(14,.int .i64 (i:Int)),(49,.pl (j.needs.map eI)),(50,.int .i64 (j.needs.length:Int)),(51,.int .i64 (k:Int))]) (fun _=>H++[⟨0,13,[qv j]⟩]) (fun k=>j.needs.length-k) 0 ⟨Nat.zero_le _,by simp⟩ Y8 (Fit.refl _ _) ?_
  rintro k ⟨hk,hhit⟩
  refine Z43 ?_
  refine qa rfl (fun hc=>?_) (fun hc=>?_)
  ·have hltk:k<j.needs.length:=by simpa using hc
   obtain ⟨n,hn,hnl⟩:=qo hltk
   have hr:=ql eI hn
   refine Zf8 ?_
   refine Zau ?_
   refine ao1 (by decide) (q6r (ys:=(l.take i).map qv) rfl (Bd.some rfl rfl) Y22 (qdy _) hli) ?_
   refine Z8 ?_
   refine Zf9 ?_
   refine Zdx ?_
   refine qa rfl (fun hc=>?_) (fun hc=>?_)
   ·have hbad:qo4 l i=false:=by
     rw [hB2,List.all_eq_false]
     exact ⟨n,hnl,by simpa using hc⟩
    refine Zf ?_
    rw [q41 hlt hbad]
    exact Zb
   ·refine Z4f ?_
    refine ⟨k+1,by omega,⟨by omega,?_⟩,Y8,.refl _ _⟩
    rw [qj hn]
    intro y hy
    rcases List.mem_append.1 hy with h | h
    ·exact hhit y h
    ·simp only [List.mem_singleton] at h
     subst h
     simpa using hc
  ·have:k=j.needs.length:=by simp at hc;omega
   subst this
   rw [List.take_length] at hhit
   have hgood:qo4 l i=true:=by rw [hB2,List.all_eq_true];exact hhit
   refine Z4f ?_
   refine ⟨i+1,by omega,⟨by omega,fun k hk=>?_⟩,Y8,Fit.loc hB (L:=[]) rfl Y1 (fun o ho=>by simp at ho)⟩
   rcases Nat.lt_or_eq_of_le (Nat.le_of_lt_succ hk) with h | h
   ·exact hno0 k h
   ·subst h;exact hgood
 ·have:i=l.length:=by simp at hc;omega
  subst this
  refine Zf ?_
  rw [q4e hno]
  exact Zb
theorem qml (p d:Int) (H:qf):AC Tryz.prog 60 [.int .i64 p,.int .i64 d] H (Ret (.bool (q7x p d)) H):=by
 refine AC.body (N:=19) [.tmp 4] Tryz.func60 rfl rfl rfl (Nat.le_of_ble_eq_true rfl) fun B hB=>?_
 refine Zf ?_
 refine qn 4 (.bool (q7x p d)) ?_ ?_
 ·refine Z8 ?_
  refine Z25 ?_
  refine qb rfl rfl (fun hg2=>?_) (fun hg2=>?_)
  ·refine Zj ?_
   refine Zx ?_
   refine Z2q ?_
   refine qb rfl rfl (fun hg6=>?_) (fun hg6=>?_)
   ·refine Zj ?_
    refine Z4b ?_
    refine Z2q ?_
    refine qb rfl rfl (fun hg10=>?_) (fun hg10=>?_)
    ·refine Zj ?_
     refine Zy ?_
     exact qe (Out.mk (by (refine congrArg AV.bool ?_;(simp only [q7x];clear hB;(simp_all;done)))) Yb)
    ·refine Zt ?_
     exact Zfa
   ·refine Z53 ?_
    refine Zt ?_
    exact Zfa
  ·refine Z53 ?_
   refine Z53 ?_
   refine Zt ?_
   exact Zfa
 exact Z21
theorem qfo (g:List Thing) (l:List Int) (H:qf) (hg:g.length≤1000000) (hl:l.length≤1000000):AC Tryz.prog 65 [.pl (g.map qq),.pl (l.map q3s)] H (Ret (.bool (q2q g l)) H):=by
 refine AC.body (N:=23) [.tmp 4] Tryz.func65 rfl rfl rfl (Nat.le_of_ble_eq_true rfl) fun B hB=>?_
 refine Z1q ?_
 by_cases h0:l.length=0
 ·refine Z1 ?_
  refine qn 4 (.bool (q2q g l)) ?_ ?_
  ·refine Z3g ?_
   refine Zfb ?_
   refine Zh ?_
   refine qb rfl rfl (fun hg2=>?_) (fun hg2=>?_)
   ·refine Z9b ?_
    refine Z4r ?_
    refine Z32 ?_
    refine qb rfl rfl (fun hg6=>?_) (fun hg6=>?_)
    ·refine Z48 ?_
     refine Z2u ?_
     refine Z2v ?_
     refine Zbb ?_
     refine Zn ?_
     exact Zfc
    ·exfalso;have:=List.eq_nil_of_length_eq_zero h0;subst this;simp at hg6
   ·refine Z4m ?_
    refine Zb8 ?_
    refine Zb8 ?_
    refine Zb6 ?_
    refine Z4u ?_
    exact Zfc
  exact Z21
 ·obtain ⟨x,hx,hxl⟩:=qo (l:=l) (k:=l.length-1) (by omega)
  have hr:=ql q3s hx
  have hd:l.getD (l.length-1) 0=x:=by rw [List.getD_eq_getElem?_getD,hx];rfl
  have hs:q2q g l=(sok l&&decide (x<(g.length:Int))):=by rw [q2q,hd,decide_eq_false h0,Bool.false_or]
  rw [hs]
  refine Z1 ?_
  refine qn 4 (.bool (sok l&&decide (x<(g.length:Int)))) ?_ ?_
  ·refine Z3g ?_
   refine Zfb ?_
   refine Zh ?_
   refine qb rfl rfl (fun hg2=>?_) (fun hg2=>?_)
   ·refine Z9b ?_
    refine Z4r ?_
    refine Z32 ?_
    refine qb rfl rfl (fun hg6=>?_) (fun hg6=>?_)
    ·refine Z48 ?_
     refine Z2u ?_
     refine Z2v ?_
     refine Zbb ?_
     refine Zn ?_
     exact Zfd
    ·refine Z99 ?_
     refine Z9b ?_
     refine q1c rfl rfl (by decide) (q3e (r:=((l.length-1:Nat):Int)) rfl rfl (by rw [List.length_map,show (l.length:Int)-1=((l.length-1:Nat):Int) by omega];exact qd (by omega) (by omega))) ?_
     refine Zdn ?_
     refine Zfe ?_
     refine Z9b ?_
     refine Zk ?_
     refine Zbd ?_
     refine Zn ?_
     exact Zfd
   ·refine Z4m ?_
    refine Zb8 ?_
    refine Zb8 ?_
    refine Zb6 ?_
    refine Z4u ?_
    exact Zfd
  exact Z21
abbrev q1j (i:Inst):List AV:=[.pl (i.graph.map qq),.pl (i.health.map eI),.pl (i.lease.map eI),.int .i64 i.til,.pl (i.jobs.map qv),.pl (i.table.map qi),.int .i64 i.now,.int .i64 i.policy,.int .i64 i.depth]
set_option maxHeartbeats 0 in
theorem qtl (i:Inst) (H:qf) (hw:IW i):AC Tryz.prog 69 [.agg (q1j i)] H (Ret (.bool (q9m i)) H):=by
 have w1:=hw.graph
 have w2:=hw.jobs
 have w3:=hw.table
 refine AC.body (N:=80) [.tmp 2] Tryz.func69 rfl rfl rfl (Nat.le_of_ble_eq_true rfl) fun B hB=>?_
 refine Zfg ?_
 refine Z2i ?_
 refine Z5 ?_
 refine Z3w ?_
 refine Z42 ?_
 refine qm (G:=Nat) (fun k=>k≤i.jobs.length∧∀ m,m<k→qdc i m=true) (fun k=>[(1,.pt (Lid H.length 0) 0 0 0),(3,.int .i64 (qxb (i.jobs.take k):Int)),(9,.pl (i.jobs.map qv)),(10,.int .i64 (i.jobs.length:Int)),(11,.int .i64 (k:Int))]) (fun _=>H++[⟨0,9,[q1j i]⟩]) (fun k=>i.jobs.length-k) 0 ⟨Nat.zero_le _,fun m hm=>by omega⟩ Y8 (Fit.refl _ _) ?_
 rintro k ⟨hk,hno⟩
 have hbel:∀ (b:Nat),∀ o∈[AObj.mk 0 9 [q1j i]],∀ r∈o.rows,AV.bels b r=true:=by
  intro b o ho r hr
  simp only [List.mem_singleton] at ho
  subst ho
  simp only [List.mem_singleton] at hr
  subst hr
  rfl
 refine Z43 ?_
 refine qa rfl (fun hc=>?_) (fun hc=>?_)
 ·have hlt:k<i.jobs.length:=by simp at hc;omega
  obtain ⟨j,hj,hjl⟩:=qo hlt
  have hr:=ql qv hj
  have hB2:=q73 hj
  have hstep:=qt3 hj
  have hrl:=q10z (i.jobs.take k)
  rw [List.length_take] at hrl
  have hno0:=hno
  have hget:=qo2 w3 j.id
  clear hno hc
  refine Zfj ?_
  refine Zb2 ?_
  clear hr
  refine Z1 ?_
  refine qn 26 (.bool (!(decide (j.came≤i.now)&&decide (j.frm≤i.now)))) ?_ ?_
  ·refine Z6v ?_
   refine Z2b ?_
   refine Zh ?_
   refine qb rfl rfl (fun hg5=>?_) (fun hg5=>?_)
   ·refine Z97 ?_
    exact qe (Out.mk (by (refine congrArg AV.bool ?_;(clear hB hB2 hstep hno0 hget hrl hbel;(simp_all;done)))) Yb)
   ·refine Z4i ?_
    refine Z2y ?_
    refine Zr ?_
    exact qe (Out.mk (by (refine congrArg AV.bool ?_;(clear hB hB2 hstep hno0 hget hrl hbel;grind))) Yb)
  refine Z1 ?_
  refine qa rfl (fun hc=>?_) (fun hc=>?_)
  ·have hbad:qdc i k=false:=by rw [Bool.not_eq_true'] at hc;rw [hB2,hc,Bool.false_and]
   refine Zf ?_
   rw [show q9m i=false by rw [q9m,q41 hlt hbad,Bool.false_and]]
   exact Zb
  have h1:(decide (j.came≤i.now)&&decide (j.frm≤i.now))=true:=by simpa only [Bool.not_eq_false'] using hc
  rw [h1,Bool.true_and] at hB2
  clear hc
  refine Z4o ?_
  refine Z27 ?_
  refine Z3z ?_
  refine qa rfl (fun hc=>?_) (fun hc=>?_)
  ·have h2:j.state≠2:=by simpa using hc
   rw [decide_eq_true h2,Bool.true_or] at hB2
   rw [if_neg (by simpa using h2),Nat.add_zero] at hstep
   refine Z4f ?_
   refine ⟨k+1,by omega,⟨by omega,fun m hm=>?_⟩,by rw [hstep];exact Y8,Fit.loc hB rfl Y1 (hbel _)⟩
   rcases Nat.lt_or_eq_of_le (Nat.le_of_lt_succ hm) with h | h
   ·exact hno0 m h
   ·subst h;exact hB2
  have h2:j.state=2:=by simpa using hc
  rw [if_pos (by simpa using h2)] at hstep
  rw [show decide (j.state≠2)=false by simp [h2],Bool.false_or] at hB2
  refine Z11 ?_
  refine ao1 (by decide) (q20 (r:=((qxb (i.jobs.take k)+1:Nat):Int)) rfl rfl (by rw [show (qxb (i.jobs.take k):Int)+1=((qxb (i.jobs.take k)+1:Nat):Int) by omega];exact qd (by omega) (by omega))) ?_
  refine Z4 ?_
  refine Z3w ?_
  refine Z2m ?_
  refine q12 (qy4 _ _ _ Y23) rfl (by decide) ?_
  refine Z7m ?_
  refine Zfk ?_
  refine Z1p ?_
  refine Zfl ?_
  generalize q2d i.table j.id=q at hB2 hget ⊢
  obtain ⟨h,ok⟩:=q
  simp only at hB2 hget
  clear hj hjl
  refine Z1 ?_
  refine q1n 73 (.bool (!qdc i k)) ?_ ?_
  ·refine Zfm ?_
   refine Z82 ?_
   refine Z84 ?_
   refine aq0 1 rfl Y1v (by decide) (fun _=>qa2 rfl) ?_
   refine Z7p ?_
   refine q13 (g:=42) rfl (fun hg2=>?_) (fun hg2=>?_)
   ·refine q17 (g:=42) 3 rfl Y1v (by decide) rfl rfl rfl ?_
    refine q17 (g:=42) 4 rfl Y1v (by decide) rfl rfl rfl ?_
    refine q17 (g:=42) 5 rfl Y1v (by decide) rfl rfl rfl ?_
    refine q17 (g:=42) 6 rfl Y1v (by decide) rfl rfl rfl ?_
    refine q17 (g:=42) 7 rfl Y1v (by decide) rfl rfl rfl ?_
    refine Z9r ?_
    refine Z9s ?_
    refine Zfn ?_
    refine Zfo ?_
    refine Zfp ?_
    refine Zfq ?_
    refine Zfr ?_
    refine Zfs ?_
    refine Zft ?_
    refine Zfu ?_
    refine Zfv ?_
    refine Zfw ?_
    refine Zfx ?_
    refine Zfy ?_
    refine Zfz ?_
    refine Zg0 ?_
    refine Zg1 ?_
    refine Zg2 ?_
    refine Zg3 ?_
    refine Zg4 ?_
    refine Zg5 ?_
    refine Zg6 ?_
    refine Zg7 ?_
    refine Zg8 ?_
    refine Zg9 ?_
    refine Zga ?_
    exact Zgb
   ·refine q2x (g:=42) 3 rfl Y1v (by decide) rfl rfl (fun G=>qc rfl (lk rfl rfl) rfl (by decide)) ?_
    refine q2x (g:=42) 4 rfl Y1v (by decide) rfl rfl (fun G=>qh (v:=.int _ _) rfl (lk rfl rfl) rfl rfl rfl) ?_
    refine q2x (g:=42) 5 rfl Y1v (by decide) rfl rfl (fun G=>qc rfl (lk rfl rfl) rfl (by decide)) ?_
    refine q2x (g:=42) 6 rfl Y1v (by decide) rfl rfl (fun G=>qh (v:=.int _ _) rfl (lk rfl rfl) rfl rfl rfl) ?_
    refine q2s (g:=42) 7 rfl Y1v (by decide) rfl rfl (fun _=>qyn rfl rfl) ?_
    refine Zao ?_
    refine Z9s ?_
    refine q13 (g:=49) rfl (fun hg9=>?_) (fun hg9=>?_)
    ·refine Zfn ?_
     refine Zfo ?_
     refine Zfp ?_
     refine Zfq ?_
     refine Zfr ?_
     refine Zfs ?_
     refine Zft ?_
     refine Zfu ?_
     refine Zfv ?_
     refine Zfw ?_
     refine Zfx ?_
     refine Zfy ?_
     refine Zfz ?_
     refine Zg0 ?_
     refine Zg1 ?_
     refine Zg2 ?_
     refine Zg3 ?_
     refine Zg4 ?_
     refine Zg5 ?_
     refine Zg6 ?_
     refine Zg7 ?_
     refine Zg8 ?_
     refine Zg9 ?_
     refine Zga ?_
     exact Zgb
    ·refine q2x (g:=49) 10 rfl Y1v (by decide) rfl rfl (fun G=>qc rfl (lk rfl rfl) rfl (by decide)) ?_
     refine q2x (g:=49) 11 rfl Y1v (by decide) rfl rfl (fun G=>qh (v:=.int _ _) rfl (lk rfl rfl) rfl rfl rfl) ?_
     refine q2x (g:=49) 12 rfl Y1v (by decide) rfl rfl (fun G=>qc rfl (lk rfl rfl) rfl (by decide)) ?_
     refine q2x (g:=49) 13 rfl Y1v (by decide) rfl rfl (fun G=>q6g (cs:=[_,_,_,_,_,_,_]) rfl (lk rfl rfl) rfl rfl rfl rfl) ?_
     refine q2x (g:=49) 14 rfl Y1v (by decide) rfl rfl (fun G=>qc rfl (lk rfl rfl) rfl (by decide)) ?_
     refine q2x (g:=49) 15 rfl Y1v (by decide) rfl rfl (fun G=>qh (v:=.int _ _) rfl (lk rfl rfl) rfl rfl rfl) ?_
     refine qct (g:=49) 16 rfl Y1v (by decide) rfl rfl (fun _=>V2.call (qf0 _ _ _) rfl) ?_
     refine q2s (g:=49) 17 rfl Y1v (by decide) rfl rfl (fun _=>qyn rfl rfl) ?_
     refine aq0 18 rfl Y1v (by decide) (fun _=>q1r (v:=.bool _) rfl rfl) ?_
     refine Zfw ?_
     refine q13 (g:=59) rfl (fun hg19=>?_) (fun hg19=>?_)
     ·refine Zfx ?_
      refine Zfy ?_
      refine Zfz ?_
      refine Zg0 ?_
      refine Zg1 ?_
      refine Zg2 ?_
      refine Zg3 ?_
      refine Zg4 ?_
      refine Zg5 ?_
      refine Zg6 ?_
      refine Zg7 ?_
      refine Zg8 ?_
      refine Zg9 ?_
      refine Zga ?_
      exact Zgb
     ·refine q2x (g:=59) 20 rfl Y1v (by decide) rfl rfl (fun G=>qc rfl (lk rfl rfl) rfl (by decide)) ?_
      refine q2x (g:=59) 21 rfl Y1v (by decide) rfl rfl (fun G=>qh (v:=.int _ _) rfl (lk rfl rfl) rfl rfl rfl) ?_
      refine q2x (g:=59) 22 rfl Y1v (by decide) rfl rfl (fun G=>qc rfl (lk rfl rfl) rfl (by decide)) ?_
      refine q2x (g:=59) 23 rfl Y1v (by decide) rfl rfl (fun G=>qh (v:=.int _ _) rfl (lk rfl rfl) rfl rfl rfl) ?_
      refine q2s (g:=59) 24 rfl Y1v (by decide) rfl rfl (fun _=>o_le rfl rfl) ?_
      refine aq0 25 rfl Y1v (by decide) (fun _=>q1r (v:=.bool _) rfl rfl) ?_
      refine Zg3 ?_
      refine q13 (g:=66) rfl (fun hg26=>?_) (fun hg26=>?_)
      ·refine Zg4 ?_
       refine Zg5 ?_
       refine Zg6 ?_
       refine Zg7 ?_
       refine Zg8 ?_
       refine Zg9 ?_
       refine Zga ?_
       exact Zgb
      ·refine q2x (g:=66) 27 rfl Y1v (by decide) rfl rfl (fun G=>qc rfl (lk rfl rfl) rfl (by decide)) ?_
       refine q2x (g:=66) 28 rfl Y1v (by decide) rfl rfl (fun G=>qh (v:=.pl _) rfl (lk rfl rfl) rfl rfl rfl) ?_
       refine q2x (g:=66) 29 rfl Y1v (by decide) rfl rfl (fun G=>qc rfl (lk rfl rfl) rfl (by decide)) ?_
       refine q2x (g:=66) 30 rfl Y1v (by decide) rfl rfl (fun G=>qh (v:=.pl _) rfl (lk rfl rfl) rfl rfl rfl) ?_
       refine qct (g:=66) 31 rfl Y1v (by decide) rfl rfl (fun _=>V2.call (qfo _ _ _ (by omega) (by omega)) rfl) ?_
       refine q2s (g:=66) 32 rfl Y1v (by decide) rfl rfl (fun _=>qa2 rfl) ?_
       refine aq0 33 rfl Y1v (by decide) (fun _=>q1r (v:=.bool _) rfl rfl) ?_
       exact Zgb
  refine Z1 ?_
  refine qa rfl (fun hc=>?_) (fun hc=>?_)
  ·have hbad:qdc i k=false:=by simpa only [Bool.not_eq_true'] using hc
   refine Z1q ?_
   try dsimp only
   refine Z1 ?_
   rw [show q9m i=false by rw [q9m,q41 hlt hbad,Bool.false_and]]
   exact Zb
  ·have hgood:qdc i k=true:=by simpa only [Bool.not_eq_false'] using hc
   refine Z4d ?_
   refine Z8 ?_
   refine qe ?_
   try dsimp only
   refine Z1 ?_
   refine ⟨k+1,by omega,⟨by omega,fun m hm=>?_⟩,by rw [hstep];exact Y8,Fit.loc hB rfl Y1 (hbel _)⟩
   rcases Nat.lt_or_eq_of_le (Nat.le_of_lt_succ hm) with h | h
   ·exact hno0 m h
   ·subst h;exact hgood
 ·have:k=i.jobs.length:=by simp at hc;omega
  subst this
  refine Z11 ?_
  refine Z3v ?_
  refine Z3x ?_
  refine Z95 ?_
  refine Z3b ?_
  refine Z1 ?_
  rw [List.take_length,show q9m i=decide (qxb i.jobs=i.table.length) by rw [q9m,q4e hno,Bool.true_and];rfl]
  exact Zgc
set_option maxHeartbeats 0 in
theorem qgn (i:Inst) (H:qf) (hw:IW i):AC Tryz.prog 26 [.agg (q1j i)] H (Ret (.bool (q34 i)) H):=by
 have w1:=hw.graph
 have w2:=hw.jobs
 have w3:=hw.table
 have w4:=hw.health
 have w5:=hw.lease
 refine AC.body (N:=48) [.tmp 2] Tryz.func26 rfl rfl rfl (Nat.le_of_ble_eq_true rfl) fun B hB=>?_
 refine Zfg ?_
 refine Z2j ?_
 refine qn 3 (.bool (q50 i.graph i.health&&q2q i.graph i.lease&&tm i.til&&tm i.now&&q7x i.policy i.depth)) ?_ ?_
 ·refine Z3v ?_
  refine Z3v ?_
  refine Zbq ?_
  refine Zh ?_
  refine qb rfl rfl (fun hg5=>?_) (fun hg5=>?_)
  ·refine Z70 ?_
   refine Zgd ?_
   refine Z2q ?_
   refine qb rfl rfl (fun hg12=>?_) (fun hg12=>?_)
   ·refine Z2o ?_
    refine Z50 ?_
    refine Z2q ?_
    refine qb rfl rfl (fun hg17=>?_) (fun hg17=>?_)
    ·refine Z2o ?_
     refine Z50 ?_
     refine Z2q ?_
     refine qb rfl rfl (fun hg22=>?_) (fun hg22=>?_)
     ·refine Z4i ?_
      refine Zge ?_
      refine Zn ?_
      exact Zgf
     ·refine Z4k ?_
      exact Zgg
    ·refine Z2s ?_
     refine Z4k ?_
     exact Zgg
   ·refine Z34 ?_
    refine Z4k ?_
    exact Zgf
  ·refine Z72 ?_
   refine Z34 ?_
   refine Z4k ?_
   exact Zgf
 refine Z1 ?_
 refine qn 2 (.bool (q34 i)) ?_ ?_
 ·refine Z31 ?_
  refine qb rfl rfl (fun hg1=>?_) (fun hg1=>?_)
  ·refine Z6z ?_
   refine q5r rfl rfl (by decide) (V2.call (qfk _ _ (by omega)) rfl) ?_
   refine Z2q ?_
   refine qb rfl rfl (fun hg6=>?_) (fun hg6=>?_)
   ·refine Z6z ?_
    refine Zgh ?_
    refine Z2q ?_
    refine qb rfl rfl (fun hg11=>?_) (fun hg11=>?_)
    ·refine Z4z ?_
     refine q5r rfl rfl (by decide) (V2.call (qtl _ _ Y23) rfl) ?_
     refine Zn ?_
     exact Zgi
    ·refine Zt ?_
     exact Zgi
   ·refine Z2s ?_
    refine Zt ?_
    exact Zgi
  ·refine Z34 ?_
   refine Zt ?_
   exact Zgi
 exact Z21
theorem qii (w:Inst) (id:Nat) (H:qf) (hw:IW w) (hid:H[id]?=some ⟨0,9,[q1j w]⟩):ACT Tryz.prog KD 203 [.pt id 0 0 0] H (Ret (.pl ((q6w w).map q3s)) H):=by
 have hF:=hid
 have w1:=hw.graph
 have w4:=hw.health
 have w5:=hw.lease
 have hbl:=qjl w.graph w.health 0
 refine ACT.body (N:=20) [.tmp 2] Tryz.func203 rfl rfl rfl (Nat.le_of_ble_eq_true rfl) fun B hB=>?_
 refine Z3e ?_
 refine Z9 ?_
 refine Z9i ?_
 refine Zgj ?_
 refine Zgk ?_
 refine Zgl ?_
 refine Zgm ?_
 refine Zgn ?_
 refine Zgo ?_
 refine Zgp ?_
 refine Zgq ?_
 refine Zgr ?_
 refine Zgs ?_
 refine Zgt ?_
 refine Zgu ?_
 refine Zgv ?_
 refine Zgw ?_
 refine Zgx ?_
 refine q8b 15 rfl Y1v (by decide) (fun _=>V2.call (qin _ _ _ (by omega) (by omega)) rfl) ?_
 refine q8b 16 rfl Y1v (by decide) (fun _=>V2.callT (qp0 w.lease (q2p w.graph w.health 0) (by omega) (by omega) _) rfl rfl) ?_
 refine Zgy ?_
 refine Zgz ?_
 exact Z21
set_option maxHeartbeats 0 in
theorem qpz (g:List Thing) (p d:Int) (H:qf) (hl:g.length≤1000000):AC Tryz.prog 24 [.pl (g.map qq),.int .i64 p,.int .i64 d] H (Ret (.tup [.agg (q1j (qby g p d).1),.int .i64 (qby g p d).2]) H):=by
 refine AC.body (N:=27) [.cell 6 45,.tmp 7] Tryz.func24 rfl rfl rfl (Nat.le_of_ble_eq_true rfl) fun B hB=>?_
 refine Z2 ?_
 refine Zh0 ?_
 refine Z4 ?_
 refine Z78 ?_
 refine Z1 ?_
 refine qn 16 (.bool (!q2f g||!q7x p d)) ?_ ?_
 ·refine Z3g ?_
  refine Zh1 ?_
  refine Z5j ?_
  refine qb rfl rfl (fun hg3=>?_) (fun hg3=>?_)
  ·refine Z49 ?_
   exact Zh2
  ·refine Z2e ?_
   refine Zge ?_
   refine Zh3 ?_
   exact Zh2
 refine Z1 ?_
 refine qa rfl (fun hc=>?_) (fun hc=>?_)
 ·have hno:qby g p d=(qq2,1):=by rw [qby,if_pos hc]
  rw [hno]
  refine Z2 ?_
  refine Zh4 ?_
  refine Zh6 ?_
  exact Zdv
 have hyes:qby g p d=(⟨g,List.replicate g.length 0,q6f g 0,4611686018427387904,[],[],0,p,d⟩,0):=by rw [qby,if_neg (by simp [hc])]
 have hg:q2f g=true:=by cases h:q2f g<;>simp_all
 rw [hyes]
 refine Z3h ?_
 refine q12 (q62 _ _ (by omega)) rfl (by decide) ?_
 refine Z3g ?_
 refine q12 (qro _ _ (by omega)) rfl (by decide) ?_
 refine Z3g ?_
 refine q12 (qg0 _ _ _ (by omega)) rfl (by decide) ?_
 refine Z2d ?_
 refine Zh4 ?_
 refine Zh6 ?_
 refine Zdu ?_
 rw [if_pos hg]
 exact Z68
theorem qji (g:List Thing) (h:List Int) (H:qf) (hl:g.length≤1000000) (hh:h.length≤1000000):AC Tryz.prog 195 [.pl (g.map qq),.pl (h.map eI)] H (Ret (.pl ((q2p g h 1).map q3s)) H):=by
 refine AC.body (N:=8) [.tmp 4] Tryz.func195 rfl rfl rfl (Nat.le_of_ble_eq_true rfl) fun B hB=>?_
 refine Z93 ?_
 refine Zbt ?_
 refine Z3p ?_
 refine Z9 ?_
 exact Zb
theorem qk7 (j:Job) (H:qf) (hw:j.needs.length≤1000000):AC Tryz.prog 193 [.agg (qv j)] H (Ret (.agg (qv j)) H):=by
 refine AC.body (N:=8) [.cell 2 98] Tryz.func193 rfl rfl rfl (Nat.le_of_ble_eq_true rfl) fun B hB=>?_
 refine Z3t ?_
 refine Z5d ?_
 refine qe ?_
 refine Zdp ?_
 refine Z3w ?_
 refine Z5f ?_
 refine Z2k ?_
 refine Z5g ?_
 refine Z5i ?_
 refine Zh7 ?_
 refine qe ?_
 refine Z5t ?_
 exact Zdr
theorem qsy (l:List Job) (id:Int) (H:qf) (hw:JW l):AC Tryz.prog 168 [.pl (l.map qv),.int .i64 id] H (Ret (.tup [.agg (qv (q48 l id).1),.bool (q48 l id).2]) H):=by
 have hw1:=hw.1
 refine AC.body (N:=26) [.cell 4 98,.tmp 5] Tryz.func168 rfl rfl rfl (Nat.le_of_ble_eq_true rfl) fun B hB=>?_
 refine Z2 ?_
 refine Z5d ?_
 refine Z1p ?_
 refine Z78 ?_
 refine Z3h ?_
 refine Zh8 ?_
 refine Z39 ?_
 refine qa rfl (fun hc=>?_) (fun hc=>?_)
 ·have hno:q2v l=false:=by simpa only [Bool.not_eq_true'] using hc
  rw [show q48 l id=(job0,false) by rw [q48,hno];rfl]
  refine Z2 ?_
  refine Zh9 ?_
  refine Z5q ?_
  refine Z1p ?_
  exact Zdv
 have hyes:q2v l=true:=by simpa only [Bool.not_eq_false'] using hc
 have hs:=q3f hyes
 refine Zau ?_
 refine Zf9 ?_
 refine Zdx ?_
 refine qa rfl (fun hc=>?_) (fun hc=>?_)
 ·have hno:q2t l id=false:=by simpa only [Bool.not_eq_true'] using hc
  rw [show q48 l id=(job0,false) by rw [q48,hyes,hno];rfl]
  refine Z2 ?_
  refine Zh9 ?_
  refine Z5q ?_
  refine Z1p ?_
  exact Zdv
 have hhit:q2t l id=true:=by simpa only [Bool.not_eq_false'] using hc
 have hn:q1e l id<l.length:=by simp only [q2t,Bool.and_eq_true,decide_eq_true_eq] at hhit;exact hhit.1
 obtain ⟨x,hx,hxl⟩:=qo hn
 have hr:=ql qv hx
 have hxw:=hw.2 x hxl
 rw [show q48 l id=(x,true) by rw [q48,hyes,hhit,q1z hx];rfl]
 refine Zau ?_
 refine Z9d ?_
 refine Zha ?_
 refine Z5q ?_
 refine Z1p ?_
 refine Z7f ?_
 exact Z68
theorem qnj (l:List Job) (H:qf) (hw:JW l):AC Tryz.prog 161 [.pl (l.map qv)] H (Ret (.sl (Lid H.length 0) l.length 0 l.length l.length) (H++[⟨l.length,13,l.map qv⟩])):=by
 have hl:=hw.1
 refine AC.body (N:=19) [.tmp 2] Tryz.func161 rfl rfl rfl (Nat.le_of_ble_eq_true rfl) fun B hB=>?_
 refine Z3f ?_
 refine Z3m ?_
 refine q1v (k:=0) 3 13 rfl (by decide) rfl ?_
 refine Zb0 ?_
 refine Zbr ?_
 refine Z1 ?_
 refine qm (G:=Nat) (fun k=>k≤l.length) (fun k=>[(6,.pl (l.map qv)),(7,.int .i64 (l.length:Int)),(8,.int .i64 (k:Int)),(3,.sl (Lid H.length 0) k 0 k k)]) (fun k=>H++[⟨k,13,(l.take k).map qv⟩]) (fun k=>l.length-k) 0 (Nat.zero_le _) Y8 (Fit.refl _ _) ?_
 intro k hk
 refine Z43 ?_
 refine qa rfl (fun hc=>?_) (fun hc=>?_)
 ·have hlt:k<l.length:=by simpa using hc
  obtain ⟨x,hx,hxl⟩:=qo hlt
  have hr:=ql qv hx
  have hb:=hw.2 x hxl
  refine Zfj ?_
  refine Zb2 ?_
  refine Z8t ?_
  refine Z36 ?_
  refine Zha ?_
  refine Zhb ?_
  refine Zhc ?_
  refine Z8x ?_
  refine Zbs ?_
  refine Z4f ?_
  refine ⟨k+1,by omega,by omega,Y8,Fit.loc hB (by rw [qal qv hx];rfl) Y1 ?_⟩
  intro o ho r hr
  simp only [List.mem_singleton] at ho
  subst ho
  exact q2a _ _ r hr
 ·have:k=l.length:=by simp at hc;omega
  subst this
  rw [List.take_length]
  refine Z90 ?_
  refine Z9 ?_
  exact qag (G:=[]) hB (q2n rfl .nil) rfl rfl Y1q (by intro o ho r hr;simp only [List.mem_singleton] at ho;subst ho;exact q2a _ _ r hr)
theorem qhn (l:List Held) (H:qf) (hw:HW l):AC Tryz.prog 171 [.pl (l.map qi)] H (Ret (.sl (Lid H.length 0) l.length 0 l.length l.length) (H++[⟨l.length,4,l.map qi⟩])):=by
 have hl:=hw.1
 refine AC.body (N:=19) [.tmp 2] Tryz.func171 rfl rfl rfl (Nat.le_of_ble_eq_true rfl) fun B hB=>?_
 refine Z3f ?_
 refine Z3m ?_
 refine q1v (k:=0) 3 4 rfl (by decide) rfl ?_
 refine Zb0 ?_
 refine Zbr ?_
 refine Z1 ?_
 refine qm (G:=Nat) (fun k=>k≤l.length) (fun k=>[(6,.pl (l.map qi)),(7,.int .i64 (l.length:Int)),(8,.int .i64 (k:Int)),(3,.sl (Lid H.length 0) k 0 k k)]) (fun k=>H++[⟨k,4,(l.take k).map qi⟩]) (fun k=>l.length-k) 0 (Nat.zero_le _) Y8 (Fit.refl _ _) ?_
 intro k hk
 refine Z43 ?_
 refine qa rfl (fun hc=>?_) (fun hc=>?_)
 ·have hlt:k<l.length:=by simpa using hc
  obtain ⟨x,hx,hxl⟩:=qo hlt
  have hr:=ql qi hx
  have hb:=hw.2 x hxl
  refine Zhd ?_
  refine Zb2 ?_
  refine Z8t ?_
  refine Z36 ?_
  refine Zdy ?_
  refine Zhe ?_
  refine Zhc ?_
  refine Z8x ?_
  refine Zbs ?_
  refine Z4f ?_
  refine ⟨k+1,by omega,by omega,Y8,Fit.loc hB (by rw [qal qi hx];rfl) Y1 ?_⟩
  intro o ho r hr
  simp only [List.mem_singleton] at ho
  subst ho
  exact q1f _ _ r hr
 ·have:k=l.length:=by simp at hc;omega
  subst this
  rw [List.take_length]
  refine Z90 ?_
  refine Z9 ?_
  exact qag (G:=[]) hB (q2n rfl .nil) rfl rfl Y1q (by intro o ho r hr;simp only [List.mem_singleton] at ho;subst ho;exact q1f _ _ r hr)
set_option maxHeartbeats 0 in
theorem qz0 (l:List Job) (id what now:Int) (H:qf) (hw:JW l):AC Tryz.prog 167 [.pl (l.map qv),.int .i64 id,.int .i64 what,.int .i64 now] H (Ret (.tup [.pl ((q2z l id what now).1.map qv),.int .i64 (q2z l id what now).2]) H):=by
 have hw1:=hw.1
 refine AC.body (N:=46) [.tmp 8,.tmp 9] Tryz.func167 rfl rfl rfl (Nat.le_of_ble_eq_true rfl) fun B hB=>?_
 refine Zhf ?_
 refine Z3h ?_
 refine Zhg ?_
 refine Zbg ?_
 refine Z3h ?_
 refine Zh8 ?_
 refine Z39 ?_
 refine qa rfl (fun hc=>?_) (fun hc=>?_)
 ·have hno:q2v l=false:=by simpa only [Bool.not_eq_true'] using hc
  rw [show q2z l id what now=(l,1) by rw [q2z,hno];rfl]
  refine Zhh ?_
  try dsimp only
  refine Z1d ?_
  refine Zhi ?_
  exact Zhj
 have hyes:q2v l=true:=by simpa only [Bool.not_eq_false'] using hc
 have hs:=q3f hyes
 refine Zau ?_
 refine Zf9 ?_
 refine Zdx ?_
 refine qa rfl (fun hc=>?_) (fun hc=>?_)
 ·have hno:q2t l id=false:=by simpa only [Bool.not_eq_true'] using hc
  rw [show q2z l id what now=(l,6) by rw [q2z,hyes,hno];rfl]
  refine Zhh ?_
  try dsimp only
  refine Z1d ?_
  refine Zhi ?_
  exact Zhj
 have hhit:q2t l id=true:=by simpa only [Bool.not_eq_false'] using hc
 have hn:q1e l id<l.length:=by simp only [q2t,Bool.and_eq_true,decide_eq_true_eq] at hhit;exact hhit.1
 obtain ⟨x,hx,hxl⟩:=qo hn
 have hr:=ql qv hx
 have hxw:=hw.2 x hxl
 rw [show q2z l id what now=(l.set (q1e l id) (jdo x what now).1,(jdo x what now).2) by rw [q2z,hyes,hhit,q1z hx];rfl]
 refine Z8u ?_
 refine Zaw ?_
 refine Zhk ?_
 refine Z2d ?_
 refine ao2 Y1o (V2.call (q13v x what now hxw _) rfl) ?_
 refine Zhn ?_
 refine Zb1 ?_
 refine Z8u ?_
 refine Z36 ?_
 refine Zaw ?_
 refine ao2 Y21 (q2c (sz:=13) rfl rfl rfl rfl (qca hr) rfl rfl rfl (Nat.le_of_ble_eq_true rfl)) ?_
 refine Zax ?_
 rw [Nat.zero_add,← List.map_set]
 refine Z8u ?_
 refine Z8w ?_
 refine Zho ?_
 refine qr (ys:=(l.set (q1e l id) (jdo x what now).1).map qv) 8 rfl rfl rfl rfl Yn (by simp) (q2a 0 _) ?_
 exact Zhj
theorem qgi (l:List Held) (i id g:Nat) (H:qf) (hid:H[id]?=some ⟨g,4,l.map qi⟩) (hi:i<l.length) (hl:l.length≤1000000) :
  AC Tryz.prog 206 [.sl id g 0 l.length l.length,.int .i64 (i:Int),.int .i64 ((i+1:Nat):Int)] H (Ret (.sl id (g+1) 0 (l.length-1) l.length) (H.set id ⟨g+1,4,(l.eraseIdx i).map qi⟩)):=by
 have hF:=hid
 have e1:((l.map qi).drop (i+1)).take (l.length-(i+1))=(l.drop (i+1)).map qi:=by
  rw [List.map_drop,List.take_of_length_le (by simp)]
 have e2:((l.drop (i+1)).map qi).length=l.length-(i+1):=by simp
 have e3:(l.map qi).take i++(l.drop (i+1)).map qi=(l.eraseIdx i).map qi:=by
  rw [List.eraseIdx_eq_take_drop_succ,List.map_append,List.map_take]
 have e4:i+((l.drop (i+1)).map qi).length=l.length-1:=by rw [e2];omega
 refine AC.body (N:=33) [.tmp 6] Tryz.func206 rfl rfl rfl (Nat.le_of_ble_eq_true rfl) fun B hB=>?_
 refine Z3f ?_
 refine Zhp ?_
 refine Z8s ?_
 refine Zhq ?_
 refine ao1 (by decide) (qth rfl (lkF hF) rfl rfl (.some rfl rfl) rfl rfl (by omega) (by omega) (by omega)) ?_
 refine qe ?_
 refine Z26 ?_
 refine Z16 ?_
 refine qa rfl (fun hc=>?_) (fun hc=>?_)
 ·simp at hc;omega
 ·refine Z8t ?_
  refine Zhq ?_
  refine Za ?_
  refine q39 mixed (some 6) 999 ?_
  refine Zbm ?_
  refine aqp 2 rfl Y1v (by decide) (fun G=>q59 rfl (lkF hF) rfl rfl .none (.some rfl rfl) (by omega) (by omega)) ?_
  refine aq0 3 rfl Y1v (by decide) (fun _=>qk (v:=.sl _ _ _ _ _) rfl) ?_
  refine Z1k ?_
  refine aqp 5 rfl Y1v (by decide) (fun G=>q59 rfl (lkF hF) rfl rfl (.some rfl rfl) .none (by omega) (by omega)) ?_
  refine aqs 6 rfl Y1v Y1f Y1o (q5g l.length rfl hF rfl rfl (Src.sl (o:=⟨g,4,l.map qi⟩) rfl (lkF hF) rfl (by rw [Nat.zero_add];exact e1) e2) rfl Y22 (by rw [e2];omega) (by rw [e2];omega) (by omega)) ?_
  refine Zhr ?_
  refine Z7i ?_
  refine Z63 ?_
  simp only [Nat.sub_zero,e4,e3]
  have hF2:(H.set id ⟨g+1,4,(l.eraseIdx i).map qi⟩)[id]?=some ⟨g+1,4,(l.eraseIdx i).map qi⟩:=List.getElem?_set_self (List.getElem?_eq_some_iff.1 hid).1
  refine Zhs ?_
  refine ao1 (by decide) (qf6 rfl (lkF hF2) rfl) ?_
  refine Z8 ?_
  refine ao1 (by decide) (q59 (l:=l.length-1) (h:=l.length) rfl (lkF hF2) rfl rfl (.some rfl rfl) (.some rfl (by simp)) (by omega) (by omega)) ?_
  refine ao2 Y21 (qyk rfl hF2 rfl rfl rfl) ?_
  refine Z3j ?_
  rw [show ((l.eraseIdx i).map qi).take (0+(l.length-1))=(l.eraseIdx i).map qi from List.take_of_length_le (by simp [List.length_eraseIdx,hi]),List.set_set]
  refine Z90 ?_
  refine Z9 ?_
  refine q3u hB (q2n rfl .nil) rfl ?_ (by simp) (hB.heap.set _ _ (q1f _ _))
  simp [AV.bel]
  exact (List.getElem?_eq_some_iff.1 hid).1
set_option maxHeartbeats 0 in
theorem qw9 (l:List Held) (id:Int) (H:qf) (hw:HW l):AC Tryz.prog 170 [.pl (l.map qi),.int .i64 id] H (Ret (.tup [.pl ((q1l l id).1.map qi),.agg (qi (q1l l id).2.1),.int .i64 (q1l l id).2.2]) H):=by
 have hw1:=hw.1
 refine AC.body (N:=38) [.tmp 4,.cell 5 95,.tmp 6] Tryz.func170 rfl rfl rfl (Nat.le_of_ble_eq_true rfl) fun B hB=>?_
 refine Z3e ?_
 refine Z77 ?_
 refine Z4 ?_
 refine Z78 ?_
 refine Z3h ?_
 refine Zht ?_
 refine Z8x ?_
 refine Zhu ?_
 refine Z3h ?_
 refine Zds ?_
 refine Z39 ?_
 refine qa rfl (fun hc=>?_) (fun hc=>?_)
 ·have hno:q29 l=false:=by simpa only [Bool.not_eq_true'] using hc
  rw [show q1l l id=(l,qke,1) by rw [q1l,hno];rfl]
  refine Z8t ?_
  refine Zdt ?_
  refine Z8w ?_
  refine Zc4 ?_
  refine Z4 ?_
  refine Zdu ?_
  refine Z1d ?_
  refine Zhv ?_
  refine q2y ?_
  exact Zhw
 have hyes:q29 l=true:=by simpa only [Bool.not_eq_false'] using hc
 have hs:=q8u hyes
 refine Zau ?_
 refine Zdw ?_
 refine Zdx ?_
 refine qa rfl (fun hc=>?_) (fun hc=>?_)
 ·have hno:q2u l id=false:=by simpa only [Bool.not_eq_true'] using hc
  rw [show q1l l id=(l,qke,6) by rw [q1l,hyes,hno];rfl]
  refine Z8t ?_
  refine Zdt ?_
  refine Z8w ?_
  refine Zc4 ?_
  refine Z4 ?_
  refine Zdu ?_
  refine Z1d ?_
  refine Zhv ?_
  refine q2y ?_
  exact Zhw
 have hhit:q2u l id=true:=by simpa only [Bool.not_eq_false'] using hc
 have hk:q2g l id<l.length:=by simp only [q2u,Bool.and_eq_true,decide_eq_true_eq] at hhit;exact hhit.1
 obtain ⟨x,hx,hxl⟩:=qo hk
 have hr:=ql qi hx
 rw [show q1l l id=(l.eraseIdx (q2g l id),x,0) by rw [q1l,hyes,hhit,qcd hx];rfl]
 generalize q2g l id=k at *
 refine Z8u ?_
 refine Zaw ?_
 refine Zhk ?_
 refine Zfk ?_
 refine Zb2 ?_
 refine Z1 ?_
 refine qdw mixed (some 7) 2 ?_
 refine Zbm ?_
 refine Z94 ?_
 refine aq0 3 rfl Y1v (by decide) (fun _=>q20 (r:=((k+1:Nat):Int)) rfl rfl (by rw [show (k:Int)+1=((k+1:Nat):Int) by omega];exact qd (by omega) (by omega))) ?_
 refine aqr 5 rfl Y1v (by decide) (fun G hG=>q1m rfl (lk rfl hG) rfl rfl rfl) ?_
 refine aqs 4 rfl Y1v Y17 Y1o (V2.callo3 (qgi l k _ _ _ (lk rfl rfl) hk hw1) rfl rfl) ?_
 refine aq0 6 rfl Y1v (by decide) (fun _=>qx (v:=.sl _ _ _ _ _) rfl) ?_
 refine aqs 7 rfl Y1v Y17 Y21 (q2c (sz:=4) rfl rfl rfl rfl rfl rfl rfl rfl (Nat.le_of_ble_eq_true rfl)) ?_
 refine Z1o ?_
 refine Zhx ?_
 refine Zhy ?_
 refine Z1d ?_
 refine qr (ys:=(l.eraseIdx k).map qi) 4 rfl rfl rfl rfl (by rw [List.drop_zero,List.take_of_length_le (by simp [List.length_eraseIdx,hk])]) (by simp [List.length_eraseIdx,hk]) (q1f 0 _) ?_
 refine q2y ?_
 exact Zhw
theorem q3j {H:qf} {p:Nat} {o:AObj} (h:H[p]?=some o):H.set p o=H:=by
 apply List.ext_getElem?
 intro j
 rw [List.getElem?_set]
 by_cases e:p=j
 ·subst e;rw [if_pos rfl,if_pos (List.getElem?_eq_some_iff.1 h).1,h]
 ·rw [if_neg e]
def qrs (w:Inst) (l:List Job):Inst:=⟨w.graph,w.health,w.lease,w.til,l,w.table,w.now,w.policy,w.depth⟩
def qpp (w:Inst) (l:List Held):Inst:=⟨w.graph,w.health,w.lease,w.til,w.jobs,l,w.now,w.policy,w.depth⟩
set_option maxHeartbeats 0 in
theorem q8f (w:Inst) (id what at_:Int) (p:Nat) (H:qf) (hj:JW w.jobs) (hj2:JW (q2z w.jobs id what at_).1) (ht:HW w.table) (hid:H[p]?=some ⟨0,9,[q1j w]⟩):AC Tryz.prog 132 [.pt p 0 0 0,.int .i64 id,.int .i64 what,.int .i64 at_] H (Ret (.int .i64 (wdo w id what at_).2) (H.set p ⟨0,9,[q1j (wdo w id what at_).1]⟩)):=by
 have hF:=hid
 have hbel:∀ w:Inst,∀ r∈(AObj.mk 0 9 [q1j w]).rows,AV.bels H.length r=true:=by
  intro w r hr
  simp only [List.mem_singleton] at hr
  subst hr
  rfl
 refine AC.body (N:=57) [.tmp 8] Tryz.func132 rfl rfl rfl (Nat.le_of_ble_eq_true rfl) fun B hB=>?_
 refine Z5 ?_
 refine Zi3 ?_
 refine Zi5 ?_
 refine Z2d ?_
 refine Z8 ?_
 refine ao2 Y1o (V2.call (qz0 w.jobs id what at_ _ hj) rfl) ?_
 refine Zib ?_
 generalize hq:q2z w.jobs id what at_=q at hj2 ⊢
 obtain ⟨l,e⟩:=q
 simp only at hj2
 refine Z11 ?_
 refine Z27 ?_
 refine qe ?_
 try dsimp only
 refine Z1 ?_
 refine qa rfl (fun hc=>?_) (fun hc=>?_)
 ·have he:e≠0:=by simpa using hc
  have hw:wdo w id what at_=(w,e):=by rw [wdo,hq,if_pos he]
  rw [hw,q3j hid]
  refine Z1c ?_
  try dsimp only
  exact Z21
 have he:¬ e≠0:=by simpa using hc
 have he0:e=0:=by simpa using he
 refine Zi0 ?_
 refine Z3g ?_
 refine Zi2 ?_
 refine Zi1 ?_
 refine ao2 Y21 (q1a (r':=q1j (qrs w l)) rfl hF rfl rfl rfl rfl rfl (Nat.le_of_ble_eq_true rfl) rfl) ?_
 refine Z5i ?_
 try simp only [List.set_cons_zero]
 have hF2:(H.set p ⟨0,9,[q1j (qrs w l)]⟩)[p]?=some ⟨0,9,[q1j (qrs w l)]⟩:=List.getElem?_set_self (List.getElem?_eq_some_iff.1 hid).1
 have hF:=hF2
 refine Zau ?_
 refine Zic ?_
 refine Z7m ?_
 refine Zfi ?_
 refine Z1p ?_
 refine Z7n ?_
 refine Z4o ?_
 refine Z67 ?_
 refine Z3z ?_
 refine qa rfl (fun hc=>?_) (fun hc=>?_)
 ·have hw:wdo w id what at_=(qpp (qrs w l) (q1l w.table id).1,0):=by rw [wdo,hq];simp only [he0];rw [if_neg (by decide),if_pos hc];rfl
  rw [hw]
  refine Zid ?_
  refine Zie ?_
  refine Zi5 ?_
  refine Z8 ?_
  refine ao2 Y1o (V2.call (qw9 w.table id _ ht) rfl) ?_
  refine Zi7 ?_
  refine Z7k ?_
  refine Z14 ?_
  refine Zi2 ?_
  refine Zi1 ?_
  refine ao2 Y21 (q1a (r':=q1j (qpp (qrs w l) (q1l w.table id).1)) rfl hF rfl rfl rfl rfl rfl (Nat.le_of_ble_eq_true rfl) rfl) ?_
  refine Z5i ?_
  simp only [List.set_cons_zero,List.set_set]
  refine Zz ?_
  exact q3u hB (q2n rfl .nil) rfl rfl (by simp) (hB.heap.set _ _ (hbel _))
 ·have hw:wdo w id what at_=(qrs w l,0):=by rw [wdo,hq];simp only [he0];rw [if_neg (by decide),if_neg (by simp [hc])];rfl
  rw [hw]
  refine Z5 ?_
  try dsimp only
  refine Z1 ?_
  exact q3u hB (q2n rfl .nil) rfl rfl (by simp) (hB.heap.set _ _ (hbel _))
theorem qf4 {α:Type} (p:α→Bool) {l:List α} {k:Nat} {x:α} (hx:l[k]?=some x):(l.take (k+1)).filter p=(l.take k).filter p++if p x then [x] else []:=by
 rw [List.take_add_one,hx,List.filter_append]
 cases h:p x<;>simp [h]
def ovR (l:List Held) (now:Int) (k:Nat):List Held:=(l.take k).filter fun h=>!decide (h.tto≤now)
def ovG (l:List Held) (now:Int) (k:Nat):List Held:=(l.take k).filter fun h=>decide (h.tto≤now)
set_option maxHeartbeats 0 in
theorem qvb (l:List Held) (now:Int) (H:qf) (hw:HW l):AC Tryz.prog 133 [.pl (l.map qi),.int .i64 now] H (Ret (.tup [.pl ((q1p l now).1.map qi),.pl ((q1p l now).2.map qi)]) H):=by
 have hw1:=hw.1
 have hbel:∀ (b:Nat) (r g:List Held),∀ o∈[AObj.mk r.length 4 (r.map qi),AObj.mk g.length 4 (g.map qi)],∀ x∈o.rows,AV.bels b x=true:=by
  intro b r g o ho x hx
  simp only [List.mem_cons,List.not_mem_nil,or_false] at ho
  rcases ho with rfl | rfl<;>exact q1f _ _ x hx
 refine AC.body (N:=37) [.tmp 4,.tmp 5] Tryz.func133 rfl rfl rfl (Nat.le_of_ble_eq_true rfl) fun B hB=>?_
 refine Z3e ?_
 refine Z3d ?_
 refine qe ?_
 refine Z3h ?_
 refine Zds ?_
 refine Z39 ?_
 refine qa rfl (fun hc=>?_) (fun hc=>?_)
 ·have hno:q29 l=false:=by simpa only [Bool.not_eq_true'] using hc
  rw [show q1p l now=(l,[]) by rw [q1p,hno];rfl]
  refine Z3h ?_
  refine Zif ?_
  refine Z3p ?_
  refine Z3d ?_
  refine Z3j ?_
  refine Z1d ?_
  refine q26 5 rfl ?_
  exact Zhj
 have hyes:q29 l=true:=by simpa only [Bool.not_eq_false'] using hc
 have ho:q1p l now=(ovR l now l.length,ovG l now l.length):=by rw [q1p,hyes,ovR,ovG,List.take_length];rfl
 rw [ho]
 refine Z3e ?_
 refine Z3d ?_
 refine qe ?_
 try dsimp only
 refine Z1d ?_
 refine q1v (k:=0) 6 4 rfl (by decide) rfl ?_
 refine q1v (k:=1) 7 4 rfl (by decide) rfl ?_
 refine Zay ?_
 refine Zif ?_
 refine Zaz ?_
 try dsimp only [put,List.nil_append,List.cons_append]
 refine Z1d ?_
 refine qm (G:=Nat) (fun k=>k≤l.length) (fun k=>[(1,.int .i64 now),(6,.sl (Lid H.length 0) (ovR l now k).length 0 (ovR l now k).length (ovR l now k).length),(7,.sl (Lid H.length 1) (ovG l now k).length 0 (ovG l now k).length (ovG l now k).length),(16,.pl (l.map qi)),(17,.int .i64 (l.length:Int)),(18,.int .i64 (k:Int))]) (fun k=>H++[⟨(ovR l now k).length,4,(ovR l now k).map qi⟩,⟨(ovG l now k).length,4,(ovG l now k).map qi⟩]) (fun k=>l.length-k) 0 (Nat.zero_le _) Y8 (Fit.refl _ _) ?_
 intro k hk
 refine Z43 ?_
 refine qa rfl (fun hc=>?_) (fun hc=>?_)
 ·have hlt:k<l.length:=by simp at hc;omega
  obtain ⟨x,hx,hxl⟩:=qo hlt
  have hr:=ql qi hx
  have s1:ovR l now (k+1)=ovR l now k++if (!decide (x.tto≤now)) then [x] else []:=qf4 _ hx
  have s2:ovG l now (k+1)=ovG l now k++if decide (x.tto≤now) then [x] else []:=qf4 _ hx
  have n1:(ovR l now k).length≤k:=Nat.le_trans (List.length_filter_le _ _) Y19
  have n2:(ovG l now k).length≤k:=Nat.le_trans (List.length_filter_le _ _) Y19
  have t1:((ovR l now k).map qi).take (ovR l now k).length=(ovR l now k).map qi:=List.take_of_length_le (by simp)
  have t2:((ovG l now k).map qi).take (ovG l now k).length=(ovG l now k).map qi:=List.take_of_length_le (by simp)
  refine Zhd ?_
  refine Zb2 ?_
  refine Z5v ?_
  refine Zg ?_
  refine Z3z ?_
  refine qa rfl (fun hc=>?_) (fun hc=>?_)
  ·rw [hc,Bool.not_true,if_neg (by decide),List.append_nil] at s1
   rw [hc,if_pos rfl] at s2
   refine Zig ?_
   refine Zhe ?_
   refine Z8z ?_
   rw [t2]
   refine Z4f ?_
   refine ⟨k+1,by omega,by omega,by rw [s1,s2,List.length_append];exact Y8,Fit.loc hB (by rw [s1,s2];simp only [List.length_append,List.length_cons,List.length_nil,List.map_append,List.map_cons,List.map_nil];rfl) Y1 (hbel _ _ _)⟩
  ·rw [hc,Bool.not_false,if_pos rfl] at s1
   rw [hc,if_neg (by decide),List.append_nil] at s2
   refine Zig ?_
   refine Zhe ?_
   refine Z8y ?_
   refine Zbs ?_
   rw [t1]
   refine Z4f ?_
   refine ⟨k+1,by omega,by omega,by rw [s1,s2,List.length_append];exact Y8,Fit.loc hB (by rw [s1,s2];simp only [List.length_append,List.length_cons,List.length_nil,List.map_append,List.map_cons,List.map_nil];rfl) Y1 (hbel _ _ _)⟩
 ·have:k=l.length:=by simp at hc;omega
  subst this
  refine Zhs ?_
  refine Z8w ?_
  refine Z8w ?_
  refine Z3l ?_
  refine qr (ys:=(ovR l now l.length).map qi) 4 rfl rfl rfl rfl Yn (by simp) (q1f 0 _) ?_
  refine qr (ys:=(ovG l now l.length).map qi) 5 rfl rfl rfl rfl Yn (by simp) (q1f 0 _) ?_
  exact Zhj
theorem qj9 (l:List Held) (H:qf) (hn:l.length≤1000000):AC Tryz.prog 196 [.pl (l.map qi)] H (Ret (.pl (l.map qi)) H):=by
 refine AC.body (N:=8) [.tmp 2] Tryz.func196 rfl rfl rfl (Nat.le_of_ble_eq_true rfl) fun B hB=>?_
 refine Z3i ?_
 refine q6e rfl Y1o (qac rfl rfl _ _ _ _) ?_ (fun _ _ h=>h.elim)
 rintro _ _ ⟨nb,rfl,hnb,rfl⟩
 refine Z3k ?_
 refine qa rfl (fun hc=>?_) (fun hc=>?_)
 ·subst hc
  have hb:l=[]:=by
   cases l with
   | nil=>rfl
   | cons x b=>simp at hnb
  subst hb
  refine Z3n ?_
  exact q2y (q4u hB (q2n rfl .nil) rfl rfl)
 ·refine Z2 ?_
  refine Z3o ?_
  refine Z3g ?_
  refine ao2 Y1o (q5h (sz:=4) (bytes:=48) rfl (Src.pl rfl (qln l)) rfl (by decide) Y22 Y22 (q1f 0 l)) ?_
  exact Z3r
theorem qi4 (l:List Job) (H:qf) (hn:l.length≤1000000):AC Tryz.prog 199 [.pl (l.map qv)] H (Ret (.pl (l.map qv)) H):=by
 refine AC.body (N:=8) [.tmp 2] Tryz.func199 rfl rfl rfl (Nat.le_of_ble_eq_true rfl) fun B hB=>?_
 refine Z3i ?_
 refine q6e rfl Y1o (qac rfl rfl _ _ _ _) ?_ (fun _ _ h=>h.elim)
 rintro _ _ ⟨nb,rfl,hnb,rfl⟩
 refine Z3k ?_
 refine qa rfl (fun hc=>?_) (fun hc=>?_)
 ·subst hc
  have hb:l=[]:=by
   cases l with
   | nil=>rfl
   | cons x b=>simp at hnb
  subst hb
  refine Z3n ?_
  exact q2y (q4u hB (q2n rfl .nil) rfl rfl)
 ·refine Z2 ?_
  refine Z3o ?_
  refine Z3g ?_
  refine ao2 Y1o (q5h (sz:=13) (bytes:=128) rfl (Src.pl rfl (qdy l)) rfl (by decide) Y22 Y22 (q2a 0 l)) ?_
  exact Z3r
end Go.Av
namespace Go.Av
section
variable {P : Program} {N : Nat} {B : Base} {ops : Array Oper} {a : Option Nat} {F : Env → qf → Prop}
variable {fuel : Nat} {listed : Array Bool} {env : Env} {H H0 : qf} {op : Op} {ty : TypeId} {pos : String} {after : Array Edge} {v : AV}
theorem aqst {L0:qf} (i:Nat) (hi:ops[i]?=some ⟨none,op,ty,pos,after,none⟩) (hB:q6n ops listed a i=true) (h1:∀ G,V2 P N op ty (renv ⟨none,op,ty,pos,after,none⟩ env) (H0++(L0++G)) v (H0++(L0++G)))
  (h:AAny P N B ops a (Pre H0 L0) F fuel (listed.setIfInBounds i true) env H):AAny P N B ops a (Pre H0 L0) F (fuel+1) listed env H :=
 qb6 i hi hB Y21 (.inl ⟨rfl,by rintro _ ⟨G,rfl⟩;exact h1 G _ _ _ _⟩) h
end
end Go.Av
namespace Go.Av
open Go.Proofs
theorem qi2 {P:Program} {N:Nat} {env:Env} {ty:TypeId} {H0 L:qf} {t:TypeId} {x y:Operand} {n k g i j sz:Nat} {agg:Bool} {o:AObj} {r:List AV} {v:AV} [TyI P t agg sz] (hx:aev env x = .pt (Lid n k) g i j) (hn:H0.length=n) (hk:L[k]?=some o) (hg:o.gen=g) (hr:o.rows[i]?=some r)
  (hy:aev env y=v) (hc:v.cellish=true) (hl:v.cells.length=sz) (hj:j+sz≤o.sz) (hr':r.take j++v.cells++r.drop (j+sz)=r) (hs:(L.set k ⟨o.gen,o.sz,o.rows.set i r⟩)=L):V2 P N (.store t x y) ty env (H0++L) .junk (H0++L):=by
 have h:=q1i (P:=P) (N:=N) (env:=env) (ty:=ty) (t:=t) (agg:=agg) (r':=r) hx hn hk hg hr hy hc hl hj hr'
 rw [show ({ o with rows:=o.rows.set i r }:AObj)=⟨o.gen,o.sz,o.rows.set i r⟩ from rfl,hs] at h
 exact h
abbrev z9:List AV:=[.nsl,.nsl,.nsl,.int .i64 0,.nsl,.nsl,.int .i64 0,.int .i64 0,.int .i64 0]
set_option maxHeartbeats 0 in
theorem qlt (i:Inst) (H:qf) (hw:IW i) (hj:JW i.jobs):AC Tryz.prog 89 [.agg (q1j i)] H (Ret (.agg (q1j i)) H):=by
 have w1:=hw.graph
 have w2:=hw.health
 have w3:=hw.lease
 have w4:=hw.jobs
 have w5:=hw.table
 refine AC.body (N:=58) [.cell 2 45] Tryz.func89 rfl rfl rfl (Nat.le_of_ble_eq_true rfl) fun B hB=>?_
 refine Zfg ?_
 refine Zh0 ?_
 refine qe ?_
 refine Zdp ?_
 refine Z1 ?_
 refine Z83 ?_
 refine Z9k ?_
 refine Zih ?_
 refine q8b 2 rfl Y1v (by decide) (fun _=>V2.call (q62 i.graph _ (by omega)) rfl) ?_
 refine Zii ?_
 refine Zij ?_
 refine q8b 5 rfl Y1v (by decide) (fun _=>V2.call (q3o i.health _ (by omega)) rfl) ?_
 refine Zik ?_
 refine aqp 7 rfl Y1v (by decide) (fun G=>qh (v:=.pl _) rfl (lk rfl rfl) rfl rfl rfl) ?_
 refine q8b 8 rfl Y1v (by decide) (fun _=>V2.call (q3o i.lease _ (by omega)) rfl) ?_
 refine Zil ?_
 refine Zim ?_
 refine Zin ?_
 refine Zio ?_
 refine Zip ?_
 refine Ziq ?_
 refine Zgz ?_
 have hbel:∀ (b:Nat) (j:List Job) (t:List Held),∀ o∈[AObj.mk 0 9 [q1j i],AObj.mk 0 9 [z9],AObj.mk j.length 13 (j.map qv),AObj.mk t.length 4 (t.map qi)],∀ x∈o.rows,AV.bels b x=true:=by
  intro b j t o ho x hx
  simp only [List.mem_cons,List.not_mem_nil,or_false] at ho
  rcases ho with rfl | rfl | rfl | rfl
  ·simp only [List.mem_singleton] at hx;subst hx;rfl
  ·simp only [List.mem_singleton] at hx;subst hx;rfl
  ·exact q2a _ _ x hx
  ·exact q1f _ _ x hx
 have hb3:∀ (b:Nat) (j:List Job),∀ o∈[AObj.mk 0 9 [q1j i],AObj.mk 0 9 [z9],AObj.mk j.length 13 (j.map qv)],∀ x∈o.rows,AV.bels b x=true:=by
  intro b j o ho
  refine hbel b j [] o ?_
  simp only [List.mem_cons,List.not_mem_nil,or_false] at ho ⊢
  rcases ho with h | h | h
  ·exact .inl h
  ·exact .inr (.inl h)
  ·exact .inr (.inr (.inl h))
 refine Z3m ?_
 refine q1v (k:=2) 3 13 rfl (by decide) rfl ?_
 refine q16 ?_
 refine Z3v ?_
 refine Zaz ?_
 refine Zir ?_
 refine Z1d ?_
 refine qm (G:=Nat) (fun k=>k≤i.jobs.length) (fun k=>[(1,.pt (Lid H.length 0) 0 0 0),(2,.pt (Lid H.length 1) 0 0 0),(3,.sl (Lid H.length 2) (i.jobs.take k).length 0 (i.jobs.take k).length (i.jobs.take k).length),(22,.pl (i.jobs.map qv)),(23,.int .i64 (i.jobs.length:Int)),(24,.int .i64 (k:Int))]) (fun k=>H++[⟨0,9,[q1j i]⟩,⟨0,9,[z9]⟩,⟨(i.jobs.take k).length,13,(i.jobs.take k).map qv⟩]) (fun k=>i.jobs.length-k) 0 (Nat.zero_le _) Y8 (.inl rfl) ?_
 intro k hk
 refine Z43 ?_
 refine qa rfl (fun hc=>?_) (fun hc=>?_)
 ·have hlt:k<i.jobs.length:=by simpa using hc
  obtain ⟨x,hx,hxl⟩:=qo hlt
  have hr:=ql qv hx
  have hxw:=hj.2 x hxl
  have s1:i.jobs.take (k+1)=i.jobs.take k++[x]:=qj hx
  have n1:(i.jobs.take k).length≤1000000:=by rw [List.length_take];omega
  have t1:((i.jobs.take k).map qv).take (i.jobs.take k).length=(i.jobs.take k).map qv:=List.take_of_length_le (by simp)
  refine Zfj ?_
  refine Zb2 ?_
  refine Z3w ?_
  refine ao2 Y1o (V2.call (q3o x.needs _ hxw) rfl) ?_
  refine Z2k ?_
  refine Z5g ?_
  refine Zis ?_
  refine Z8t ?_
  refine Z36 ?_
  refine Zhb ?_
  refine Z8z ?_
  rw [t1]
  refine Z4f ?_
  refine ⟨k+1,by omega,by omega,by rw [s1,List.length_append];exact Y8,Fit.loc hB (by rw [s1];simp only [List.length_append,List.length_cons,List.length_nil,List.map_append,List.map_cons,List.map_nil];rfl) Y1 (hb3 _ _)⟩
 have:k=i.jobs.length:=by simp at hc;omega
 subst this
 rw [List.take_length]
 refine Z3m ?_
 refine q1v (k:=3) 6 4 rfl (by decide) rfl ?_
 refine q16 ?_
 refine Z3v ?_
 refine Zaz ?_
 refine Zir ?_
 refine Z1d ?_
 refine qm (G:=Nat) (fun k=>k≤i.table.length) (fun k=>[(1,.pt (Lid H.length 0) 0 0 0),(2,.pt (Lid H.length 1) 0 0 0),(3,.sl (Lid H.length 2) i.jobs.length 0 i.jobs.length i.jobs.length),(6,.sl (Lid H.length 3) (i.table.take k).length 0 (i.table.take k).length (i.table.take k).length),(38,.pl (i.table.map qi)),(39,.int .i64 (i.table.length:Int)),(40,.int .i64 (k:Int))]) (fun k=>H++[⟨0,9,[q1j i]⟩,⟨0,9,[z9]⟩,⟨i.jobs.length,13,i.jobs.map qv⟩,⟨(i.table.take k).length,4,(i.table.take k).map qi⟩]) (fun k=>i.table.length-k) 0 (Nat.zero_le _) Y8 (.inl rfl) ?_
 intro k hk
 refine Z43 ?_
 refine qa rfl (fun hc=>?_) (fun hc=>?_)
 ·have hlt:k<i.table.length:=by simpa using hc
  obtain ⟨x,hx,hxl⟩:=qo hlt
  have hr:=ql qi hx
  have hxw:=w5.2 x hxl
  have w6:=w5.1
  have s1:i.table.take (k+1)=i.table.take k++[x]:=qj hx
  have n1:(i.table.take k).length≤1000000:=by rw [List.length_take];omega
  have t1:((i.table.take k).map qi).take (i.table.take k).length=(i.table.take k).map qi:=List.take_of_length_le (by simp)
  refine Zhd ?_
  refine Zb2 ?_
  refine Z3w ?_
  refine ao2 Y1o (V2.call (q3o x.things _ hxw) rfl) ?_
  refine Z2k ?_
  refine Zdq ?_
  refine Zis ?_
  refine Z8t ?_
  refine Z36 ?_
  refine Zhe ?_
  refine Z8z ?_
  rw [t1]
  refine Z4f ?_
  refine ⟨k+1,by omega,by omega,by rw [s1,List.length_append];exact Y8,Fit.loc hB (by rw [s1];simp only [List.length_append,List.length_cons,List.length_nil,List.map_append,List.map_cons,List.map_nil];rfl) Y1 (hbel _ i.jobs _)⟩
 have:k=i.table.length:=by simp at hc;omega
 subst this
 rw [List.take_length]
 refine Z1d ?_
 refine qr (ys:=i.jobs.map qv) 3 rfl rfl rfl rfl Yn (by simp) (q2a 0 _) ?_
 refine qr (ys:=i.table.map qi) 6 rfl rfl rfl rfl Yn (by simp) (q1f 0 _) ?_
 refine Zay ?_
 refine Z3g ?_
 refine Z2k ?_
 refine Zit ?_
 refine Z2k ?_
 refine Zit ?_
 refine qe ?_
 refine Ziu ?_
 refine Z37 ?_
 refine Zh5 ?_
 refine qe ?_
 refine Z5t ?_
 exact Zdr
def qsn (l:List Int) (k:Nat):Int:=if k=0 then 0 else l.getD (k-1) 0
def rB (l:List Int) (k:Nat):Bool:=decide (qsn l k<l.getD k 0)
theorem qv4 (l:List Int):qb5 l=(qnx (rB l) l.length&&decide (l.length≤16)):=rfl
theorem qkt (l:List Int) (H:qf) (hl:l.length≤1000000):AC Tryz.prog 162 [.pl (l.map eI)] H (Ret (.bool (qb5 l)) H):=by
 rw [qv4]
 refine AC.body (N:=20) [.tmp 2] Tryz.func162 rfl rfl rfl (Nat.le_of_ble_eq_true rfl) fun B hB=>?_
 refine Z1q ?_
 refine Z7c ?_
 refine qm (G:=Nat) (fun k=>k≤l.length∧∀ m,m<k→rB l m=true) (fun k=>[(0,.pl (l.map eI)),(3,.int .i64 (qsn l k)),(6,.pl (l.map eI)),(7,.int .i64 (l.length:Int)),(8,.int .i64 (k:Int))]) (fun _=>H++[]) (fun k=>l.length-k) 0 ⟨Nat.zero_le _,fun m hm=>by omega⟩ Y8 (Fit.refl _ _) ?_
 rintro k ⟨hk,hno⟩
 refine Z43 ?_
 refine qa rfl (fun hc=>?_) (fun hc=>?_)
 ·have hlt:k<l.length:=by simpa using hc
  obtain ⟨x,hx,hxl⟩:=qo hlt
  have hr:=ql eI hx
  have hd:l.getD k 0=x:=by rw [List.getD_eq_getElem?_getD,hx];rfl
  have hat:rB l k=decide (qsn l k<x):=by rw [rB,hd]
  have hlast:qsn l (k+1)=x:=by rw [qsn,if_neg (by omega),Nat.add_sub_cancel,hd]
  refine Zf8 ?_
  refine Z26 ?_
  refine Zg ?_
  refine Z9 ?_
  refine qa rfl (fun hc=>?_) (fun hc=>?_)
  ·have hbad:rB l k=false:=by rw [hat];simp at hc;exact decide_eq_false (by omega)
   refine Zf ?_
   rw [q41 hlt hbad,Bool.false_and]
   exact Zb
  ·have hgood:rB l k=true:=by rw [hat];simp at hc;exact decide_eq_true (by omega)
   refine Z1c ?_
   refine Z4f ?_
   refine ⟨k+1,by omega,⟨by omega,fun m hm=>?_⟩,by rw [hlast];exact Y8,.refl _ _⟩
   rcases Nat.lt_or_eq_of_le (Nat.le_of_lt_succ hm) with h | h
   ·exact hno m h
   ·subst h;exact hgood
 ·have:k=l.length:=by simp at hc;omega
  subst this
  refine Z6a ?_
  refine Zg ?_
  refine Ze ?_
  rw [q4e hno,Bool.true_and]
  exact Zgc
set_option maxHeartbeats 0 in
theorem qwl (l:List Job) (s:Spec) (needs:List Int) (now:Int) (H:qf) (hw:JW l) (hn:needs.length≤1000000):AC Tryz.prog 129 [.pl (l.map qv),.agg (q1k s),.pl (needs.map eI),.int .i64 now] H (Ret (.tup [.pl ((q18 l s needs now).1.map qv),.int .i64 (q18 l s needs now).2.1,.int .i64 (q18 l s needs now).2.2]) H):=by
 have hw1:=hw.1
 refine AC.body (N:=94) [.tmp 8,.tmp 9,.tmp 10] Tryz.func129 rfl rfl rfl (Nat.le_of_ble_eq_true rfl) fun B hB=>?_
 refine Z2g ?_
 refine Z3d ?_
 refine Z15 ?_
 refine Z2h ?_
 refine Z3h ?_
 refine Zhg ?_
 refine Z8x ?_
 refine Zhu ?_
 refine Z2 ?_
 refine Zh9 ?_
 refine Zfi ?_
 refine qe ?_
 refine Ziv ?_
 refine Z6a ?_
 refine Z2c ?_
 refine q3x ([(0,.pl (l.map qv)),(2,.pl (needs.map eI)),(3,.int .i64 now),(5,.pt (Lid H.length 0) 0 0 0),(11,.sl (Lid H.length 1) l.length 0 l.length l.length),(12,.pt (Lid H.length 2) 0 0 0)]) (H++[⟨0,7,[q1k s]⟩,⟨l.length,13,l.map qv⟩,⟨0,13,[qv (q1t l)]⟩]) ?_ ?_
 ·refine Z1 ?_
  refine qa rfl (fun hc=>?_) (fun hc=>?_)
  ·have h0:0<l.length:=by simpa using hc
   obtain ⟨x,hx,hxl⟩:=qo (l:=l) (k:=l.length-1) (by omega)
   have hr:=ql qv hx
   have hjl:q1t l=x:=by rw [q1t,if_neg (by omega),q1z hx]
   refine Zay ?_
   refine Z6c ?_
   refine ao1 (by decide) (q3e (r:=((l.length-1:Nat):Int)) rfl rfl (by rw [List.length_map,show (l.length:Int)-1=((l.length-1:Nat):Int) by omega];exact qd (by omega) (by omega))) ?_
   refine Z9d ?_
   refine Z5q ?_
   refine qe ?_
   refine Z5s ?_
   exact q22 Y8 (.inl (by rw [hjl]))
  ·have h0:l.length=0:=by simp at hc;simp [hc]
   have hjl:q1t l=job0:=by rw [q1t,if_pos h0]
   refine Z1 ?_
   exact q22 Y8 (.inl (by rw [hjl];rfl))
 generalize hlast:q1t l=last
 refine Z1 ?_
 refine qn 53 (.bool (!(q2v l&&q1s s&&qb5 needs&&tm now)||decide (now<last.came))) ?_ ?_
 ·refine Z3g ?_
  refine Zh8 ?_
  refine Z5j ?_
  refine qb rfl rfl (fun hg3=>?_) (fun hg3=>?_)
  ·refine Z2w ?_
   refine Z2w ?_
   refine Z2w ?_
   refine Z49 ?_
   exact Ziw
  ·refine Z4z ?_
   refine Z4y ?_
   refine Z5p ?_
   refine qb rfl rfl (fun hg8=>?_) (fun hg8=>?_)
   ·refine Z2w ?_
    refine Z2w ?_
    refine Z49 ?_
    exact Ziw
   ·refine Z99 ?_
    refine q5r rfl rfl (by decide) (V2.call (qkt _ _ (by omega)) rfl) ?_
    refine Z5p ?_
    refine qb rfl rfl (fun hg13=>?_) (fun hg13=>?_)
    ·refine Z2w ?_
     refine Z49 ?_
     exact Ziw
    ·refine Zj ?_
     refine Z50 ?_
     refine Z5p ?_
     refine qb rfl rfl (fun hg18=>?_) (fun hg18=>?_)
     ·refine Z49 ?_
      exact Ziw
     ·refine Zj ?_
      refine Z2o ?_
      refine Zk ?_
      refine Zr ?_
      exact Ziw
 refine Z1 ?_
 refine qa rfl (fun hc=>?_) (fun hc=>?_)
 ·have he:q18 l s needs now=(l,0,1):=by rw [q18,hlast,if_pos hc]
  rw [he]
  refine Z90 ?_
  refine Z15 ?_
  try dsimp only
  refine Z1d ?_
  refine Zix ?_
  exact Ziz
 have hc1:=hc
 have hyes:q2v l=true:=by
  cases h:q2v l with
  | true=>rfl
  | false=>rw [h] at hc;simp at hc
 have hs:=q3f hyes
 have hnn:needs.length≤16:=by
  cases h:qb5 needs with
  | true=>simp only [qb5,Bool.and_eq_true,decide_eq_true_eq] at h;exact h.2
  | false=>rw [h] at hc;simp at hc
 clear hc
 refine Z7b ?_
 refine qm (G:=Nat) (fun k=>k≤needs.length∧∀ n∈needs.take k,q2t l n=true) (fun k=>[(0,.pl (l.map qv)),(2,.pl (needs.map eI)),(3,.int .i64 now),(5,.pt (Lid H.length 0) 0 0 0),(11,.sl (Lid H.length 1) l.length 0 l.length l.length),(12,.pt (Lid H.length 2) 0 0 0),(55,.pl (needs.map eI)),(56,.int .i64 (needs.length:Int)),(57,.int .i64 (k:Int))]) (fun _=>H++[⟨0,7,[q1k s]⟩,⟨l.length,13,l.map qv⟩,⟨0,13,[qv last]⟩]) (fun k=>needs.length-k) 0 ⟨Nat.zero_le _,by simp⟩ Y8 (.inl rfl) ?_
 rintro k ⟨hk,hno⟩
 refine Z43 ?_
 refine qa rfl (fun hc=>?_) (fun hc=>?_)
 ·have hlt:k<needs.length:=by simpa using hc
  obtain ⟨n,hn',hnl⟩:=qo hlt
  have hr:=ql eI hn'
  clear hc
  refine Zf8 ?_
  refine Zau ?_
  refine Zf9 ?_
  refine Zdx ?_
  refine qa rfl (fun hc=>?_) (fun hc=>?_)
  ·have hbad:q2t l n=false:=by simpa only [Bool.not_eq_true'] using hc
   have hall:(needs.all fun n=>q2t l n)=false:=by rw [List.all_eq_false];exact ⟨n,hnl,by rw [hbad];decide⟩
   have he:q18 l s needs now=(l,0,6):=by rw [q18,hlast,if_neg Y1t,hall];rfl
   rw [he]
   refine Z90 ?_
   refine Z15 ?_
   try dsimp only
   refine Z1d ?_
   refine Zix ?_
   exact Ziz
  ·have hgood:q2t l n=true:=by simpa only [Bool.not_eq_false'] using hc
   refine Z4f ?_
   refine ⟨k+1,by omega,⟨by omega,?_⟩,Y8,.inl rfl⟩
   rw [qj hn']
   intro y hy
   rcases List.mem_append.1 hy with h | h
   ·exact hno y h
   ·simp only [List.mem_singleton] at h
    subst h
    exact hgood
 ·have:k=needs.length:=by simp at hc;omega
  subst this
  rw [List.take_length] at hno
  have hall:(needs.all fun n=>q2t l n)=true:=List.all_eq_true.2 hno
  clear hc
  refine Z6a ?_
  refine Z13 ?_
  refine qa rfl (fun hc=>?_) (fun hc=>?_)
  ·have h64:l.length=64:=by simp at hc;omega
   have he:q18 l s needs now=(l,0,5):=by rw [q18,hlast,if_neg Y1t,hall,if_pos h64];rfl
   rw [he]
   refine Z90 ?_
   refine Z15 ?_
   try dsimp only
   refine Z1d ?_
   refine Zix ?_
   exact Ziz
  have h64:l.length≠64:=by simp at hc;omega
  clear hc
  refine Z4o ?_
  refine Z95 ?_
  refine Z3b ?_
  refine Z1 ?_
  refine qa rfl (fun hc=>?_) (fun hc=>?_)
  ·have hid:last.id=1073741824:=by simpa using hc
   have he:q18 l s needs now=(l,0,9):=by rw [q18,hlast,if_neg Y1t,hall,if_neg h64,if_pos hid];rfl
   rw [he]
   refine Z90 ?_
   refine Z15 ?_
   try dsimp only
   refine Z1d ?_
   refine Zix ?_
   exact Ziz
  have hid:last.id≠1073741824:=by simpa using hc
  have hle:0≤last.id∧last.id≤1073741824:=by
   rw [← hlast,q1t]
   split
   ·exact ⟨by decide,by decide⟩
   ·rename_i h
    have hm:=(jobs_iff.1 hyes).2.1 (q36 l (l.length-1)) (by rw [q1z (List.getElem?_eq_getElem (show l.length-1<l.length by omega))];exact List.getElem_mem _)
    simp only [q28,Bool.and_eq_true,decide_eq_true_eq] at hm
    omega
  have he:q18 l s needs now=(l++[⟨last.id+1,s,needs,0,now,0,0⟩],last.id+1,0):=by rw [q18,hlast,if_neg Y1t,hall,if_neg h64,if_neg hid];rfl
  rw [he]
  clear hc he hall hno
  refine Z4o ?_
  refine ao1 (by decide) (q20 (r:=last.id+1) rfl rfl (qd (by omega) (by omega))) ?_
  refine Z3c ?_
  refine Z1 ?_
  refine q39 mixed (some 8) 3 ?_
  refine Z82 ?_
  refine Zbm ?_
  refine qtw [7,6,2] 2 rfl Y1v (by decide) (fun G=>q1m rfl (lk rfl rfl) rfl rfl rfl) ?_
  refine Zj0 ?_
  refine q8b 4 rfl Y1v (by decide) (fun _=>V2.call (q3o needs _ hn) rfl) ?_
  refine Z1n ?_
  refine aq0 6 rfl Y1v (by decide) (fun _=>V1.up (q3g (cs:=[.int _ _,.int _ _,.int _ _,.int _ _,.str _,.bool _,.int _ _,.int _ _,_,.int _ _,.int _ _,.int _ _,.int _ _]) rfl)) ?_
  refine q8b 7 rfl Y1v (by decide) (fun _=>q5e (sz:=13) (v:=.agg (qv ⟨last.id+1,s,needs,0,now,0,0⟩)) (cs:=qv ⟨last.id+1,s,needs,0,now,0,0⟩) rfl (by decide) (by decide) rfl rfl rfl rfl rfl) ?_
  refine Zj1 ?_
  refine aqs 8 rfl Y1v Y1f Y1o (q46 rfl rfl rfl rfl rfl (Src.pl (ys:=[qv ⟨last.id+1,s,needs,0,now,0,0⟩]) rfl (qdy [⟨last.id+1,s,needs,0,now,0,0⟩])) rfl (by simp) (by simp) Y22 Y22) ?_
  refine aq0 10 rfl Y1v (by decide) (fun _=>qx (v:=.sl _ _ _ _ _) rfl) ?_
  refine aq0 11 rfl Y1v (by decide) (fun _=>qx (v:=.int _ _) rfl) ?_
  refine Zj2 ?_
  refine Z7i ?_
  try dsimp only [List.length_cons,List.length_nil,Nat.reduceAdd,AV.up,put,List.set_cons_succ,List.set_cons_zero]
  refine Z1d ?_
  refine qr (ys:=(l++[(⟨last.id+1,s,needs,0,now,0,0⟩:Job)]).map qv) 8 rfl rfl rfl rfl (by rw [List.drop_zero,List.take_of_length_le (by simp),List.take_of_length_le (by simp),List.map_append];rfl) (by simp) (q2a 0 _) ?_
  exact Ziz
theorem ql2 (l:List Int) (v:Int) (H:qf) (hl:l.length≤1000000):AC Tryz.prog 166 [.pl (l.map eI),.int .i64 v] H (Ret (.int .i64 (ixf (fun x=>decide (v=x)) l)) H):=by
 refine AC.body (N:=19) [.tmp 4] Tryz.func166 rfl rfl rfl (Nat.le_of_ble_eq_true rfl) fun B hB=>?_
 refine Z7c ?_
 refine qm (G:=Nat) (fun k=>k≤l.length∧∀ y∈l.take k,decide (v=y)=false) (fun k=>[(0,.pl (l.map eI)),(1,.int .i64 v),(7,.int .i64 (l.length:Int)),(8,.int .i64 (k:Int))]) (fun _=>H++[]) (fun k=>l.length-k) 0 ⟨Nat.zero_le _,by simp⟩ Y8 (Fit.refl _ _) ?_
 rintro k ⟨hk,hno⟩
 refine Z43 ?_
 refine qa rfl (fun hc=>?_) (fun hc=>?_)
 ·have hlt:k<l.length:=by simp at hc;omega
  obtain ⟨x,hx,hxl⟩:=qo hlt
  have hr:=ql eI hx
  refine Z1c ?_
  refine Z11 ?_
  refine Zbh ?_
  refine Z46 ?_
  refine Z16 ?_
  refine qa rfl (fun hc=>?_) (fun hc=>?_)
  ·have he:v=x:=by simpa using hc
   refine Z1v ?_
   rw [qbj (p:=fun x=>decide (v=x)) hx (decide_eq_true he) hno]
   exact Zb
  ·have he:¬ v=x:=by simpa using hc
   refine Z4f ?_
   refine ⟨k+1,by omega,⟨by omega,?_⟩,Y8,.refl _ _⟩
   rw [qj hx]
   intro y hy
   rcases List.mem_append.1 hy with h | h
   ·exact hno y h
   ·simp only [List.mem_singleton] at h
    subst h
    exact decide_eq_false he
 ·have:k=l.length:=by simp at hc;omega
  subst this
  rw [List.take_length] at hno
  rw [qax hno]
  exact Z18
theorem qks (l:List Int) (v:Int):decide (ixf (fun x=>decide (v=x)) l≥0)=l.contains v:=by
 rw [q7e,Bool.eq_iff_iff,List.any_eq_true,List.contains_iff_mem]
 constructor
 ·rintro ⟨x,hx,e⟩
  rw [decide_eq_true_eq] at e
  subst e
  exact hx
 ·intro h
  exact ⟨v,h,by simp⟩
theorem q8l (l:List Int) (v:Int) (H:qf) (hl:l.length≤1000000):AC Tryz.prog 131 [.pl (l.map eI),.int .i64 v] H (Ret (.bool (l.contains v)) H):=by
 rw [← qks]
 refine AC.body (N:=9) [.tmp 4] Tryz.func131 rfl rfl rfl (Nat.le_of_ble_eq_true rfl) fun B hB=>?_
 refine Z1q ?_
 refine Zau ?_
 refine q12 (ql2 _ _ _ (by omega)) rfl (by decide) ?_
 refine Z1r ?_
 exact Z1s
set_option maxHeartbeats 0 in
theorem qrw (g:List Thing) (h:List Int) (n how:Int) (H:qf) (hl:g.length≤1000000) (hh:h.length≤1000000):AC Tryz.prog 134 [.pl (g.map qq),.pl (h.map eI),.int .i64 n,.int .i64 how] H (Ret (.tup [.pl ((q5q g h n how).1.map eI),.int .i64 (q5q g h n how).2]) H):=by
 refine AC.body (N:=42) [.tmp 8,.tmp 9] Tryz.func134 rfl rfl rfl (Nat.le_of_ble_eq_true rfl) fun B hB=>?_
 refine Zhf ?_
 refine Z3h ?_
 refine ao2 Y1o (V2.callo (qbk h _ hh) rfl rfl) ?_
 refine Zbg ?_
 refine Z1 ?_
 refine qn 13 (.bool (!q50 g h||decide (how<0)||decide (2<how))) ?_ ?_
 ·refine Z3g ?_
  refine Z3g ?_
  refine Zbq ?_
  refine Z5j ?_
  refine qb rfl rfl (fun hg4=>?_) (fun hg4=>?_)
  ·refine Z5k ?_
   refine Z2u ?_
   refine Zn ?_
   exact Zh2
  ·refine Zl ?_
   refine Z2z ?_
   refine qb rfl rfl (fun hg8=>?_) (fun hg8=>?_)
   ·refine Z2u ?_
    refine Zn ?_
    exact Zh2
   ·refine Z5o ?_
    refine Z30 ?_
    exact Zj3
 refine Z1 ?_
 refine qa rfl (fun hc=>?_) (fun hc=>?_)
 ·rw [show q5q g h n how=(h,1) by rw [q5q,if_pos hc]]
  refine Zhh ?_
  try dsimp only
  refine Z1d ?_
  refine Zj4 ?_
  exact Zhj
 have hc1:=hc
 clear hc
 refine Z1 ?_
 refine qn 27 (.bool (decide (n<0)||decide ((h.length:Int)≤n))) ?_ ?_
 ·refine Zw ?_
  refine qb rfl rfl (fun hg2=>?_) (fun hg2=>?_)
  ·refine Z48 ?_
   refine Zn ?_
   exact Zh2
  ·refine Zj ?_
   refine Z9b ?_
   refine Z4b ?_
   refine Z30 ?_
   exact Zj3
 refine Z1 ?_
 refine qa rfl (fun hc=>?_) (fun hc=>?_)
 ·rw [show q5q g h n how=(h,6) by rw [q5q,if_neg Y1t,if_pos Y1y]]
  refine Zhh ?_
  try dsimp only
  refine Z1d ?_
  refine Zj4 ?_
  exact Zhj
 have hn:0≤n∧n<(h.length:Int):=by simp at hc;omega
 rw [show q5q g h n how=(h.set n.toNat how,0) by rw [q5q,if_neg Y1t,if_neg (by omega)]]
 obtain ⟨k,rfl⟩:∃ k:Nat,n=(k:Int):=⟨n.toNat,by omega⟩
 obtain ⟨x,hx,_⟩:=qo (l:=h) (k:=k) (by omega)
 have hr:=ql eI hx
 clear hc
 refine Zhp ?_
 refine Zaw ?_
 refine ao2 Y21 (q1i (sz:=1) (v:=.int .i64 how) (r':=eI how) rfl rfl rfl rfl (qca hr) rfl rfl rfl (Nat.le_refl 1) rfl) ?_
 refine Zax ?_
 rw [Nat.zero_add]
 refine Zj5 ?_
 refine qr (ys:=(h.set k how).map eI) 8 rfl rfl rfl rfl (by rw [List.drop_zero,List.take_of_length_le (by simp),List.map_set]) (by simp) (qd4 0 _) ?_
 refine q2y ?_
 rw [Int.toNat_natCast]
 exact Z5b
theorem qsb (l:List Job) (H:qf) (hl:l.length≤1000000):AC Tryz.prog 233 [.pl (l.map qv)] H (Ret (.pl ((l.map (·.id)).map eI)) H):=by
 refine AC.body (N:=19) [.tmp 2] Tryz.func233 rfl rfl rfl (Nat.le_of_ble_eq_true rfl) fun B hB=>?_
 refine Z3f ?_
 refine Z3m ?_
 refine q1v (k:=0) 3 1 rfl (by decide) rfl ?_
 refine Zb0 ?_
 refine Zbr ?_
 refine Z1d ?_
 refine qm (G:=Nat) (fun k=>k≤l.length) (fun k=>[(6,.pl (l.map qv)),(7,.int .i64 (l.length:Int)),(8,.int .i64 (k:Int)),(3,.sl (Lid H.length 0) k 0 k k)]) (fun k=>H++[⟨k,1,((l.take k).map (·.id)).map eI⟩]) (fun k=>l.length-k) 0 (Nat.zero_le _) Y8 (Fit.refl _ _) ?_
 intro k hk
 refine Z43 ?_
 refine qa rfl (fun hc=>?_) (fun hc=>?_)
 ·have hlt:k<l.length:=by simpa using hc
  obtain ⟨x,hx,hxl⟩:=qo hlt
  have hr:=ql qv hx
  refine Zfj ?_
  refine Zb2 ?_
  refine Z8t ?_
  refine Z2m ?_
  refine Z8v ?_
  refine Zhc ?_
  refine Z8x ?_
  refine Zbs ?_
  refine Z4f ?_
  refine ⟨k+1,by omega,by omega,Y8,Fit.loc hB (by rw [qj hx,List.map_append,List.map_append,List.take_of_length_le Y22];rfl) Y1 ?_⟩
  intro o ho r hr
  simp only [List.mem_singleton] at ho
  subst ho
  exact q3a _ _ r hr
 ·have:k=l.length:=by simp at hc;omega
  subst this
  rw [List.take_length]
  refine Z91 ?_
  refine qr (ys:=(l.map (·.id)).map eI) 2 rfl rfl rfl rfl Yn (by simp) (q3a 0 _) ?_
  exact Z92
abbrev qs6 (g:List Thing) (free:List Int) (s:Spec):List AV:=[.pl (g.map qq),.pl (q2k g free),.pl (qsa g),.int .i64 s.nodes,.int .i64 s.cores,.int .i64 s.gpus,.str s.tag,.bool s.whole,.int .i64 s.long,.int .i64 s.prio]
abbrev eSk (g:List Thing) (n a b:Nat) (s:Spec):List AV:=[.pl (g.map qq),.sl (n+a) 0 0 g.length g.length,.sl (n+b) 0 0 g.length g.length,.int .i64 s.nodes,.int .i64 s.cores,.int .i64 s.gpus,.str s.tag,.bool s.whole,.int .i64 s.long,.int .i64 s.prio]
theorem qov {H0 L:qf} {k:Nat} {o:AObj}:(H0++L).set (H0.length+k) o=H0++L.set k o:=st rfl
theorem q98 (n:Nat) (f:Nat→List Int) (M:Nat):∀ r∈q2e n f M 0,AV.bels (n+(M+4)) r=true:=by
 intro r hr
 obtain ⟨j,hj,rfl⟩:=List.mem_map.1 hr
 rw [List.mem_range] at hj
 rw [qfx,if_neg (Nat.not_lt_zero _)]
 simp [AV.bels,AV.bel]
 omega
theorem qpe {n M K:Nat} {f:Nat→List Int} {r0 r1 r2 r3:AObj} (hK:K=n+(M+4)) (h0:∀ r∈r0.rows,AV.bels K r=true) (h1:∀ r∈r1.rows,AV.bels (n+(M+4)) r=true) (h2:∀ r∈r2.rows,AV.bels (n+(M+4)) r=true) (h3:∀ r∈r3.rows,AV.bels K r=true):∀ o∈[r0,r1,r2,r3]++q4d f M 0,∀ r∈o.rows,AV.bels K r=true:=by
 subst hK
 intro o ho r hr
 rcases List.mem_append.1 ho with ho | ho
 ·simp only [List.mem_cons,List.not_mem_nil,or_false] at ho
  rcases ho with rfl | rfl | rfl | rfl
  ·exact h0 r hr
  ·exact h1 r hr
  ·exact h2 r hr
  ·exact h3 r hr
 ·obtain ⟨j,_,rfl⟩:=List.mem_map.1 ho
  rw [qx8,if_neg (Nat.not_lt_zero _)] at hr
  obtain ⟨x,_,rfl⟩:=List.mem_map.1 hr
  rfl
set_option maxHeartbeats 0 in
theorem qq7 (g:List Thing) (free:List Int) (s:Spec) (H:qf) (hg:q2f g=true) (hf:sok free=true):AC Tryz.prog 249 [.pl (g.map qq),.pl (free.map eI),.agg (q1k s)] H (Ret (.pt (Lid H.length 3) 0 0 0) (H++[⟨0,7,[q1k s]⟩,⟨1,1,[]⟩,⟨1,1,[]⟩,⟨0,10,[qs6 g free s]⟩])):=by
 have hlen:=q30 hg
 have hfl:=qjb hf
 have hml:(g.map qq).length=g.length:=by simp
 refine AC.body (N:=69) [.tmp 6] Tryz.func249 rfl rfl rfl (Nat.le_of_ble_eq_true rfl) fun B hB=>?_
 refine Z2g ?_
 refine ao1 (by decide) (qx (v:=.nptr) rfl) ?_
 refine qe ?_
 refine Z2h ?_
 refine Z1 ?_
 refine Z9j ?_
 refine Z6i ?_
 refine Zj6 ?_
 refine Zj7 ?_
 refine Z6m ?_
 refine aqp 5 rfl Y1v (by decide) (fun G=>qdg rfl) ?_
 refine Zj8 ?_
 refine qpl [3,6] Y1v (by simp) Y1f ?_
 simp only [List.forall_mem_cons,List.not_mem_nil,false_implies,implies_true,and_true]
 refine ⟨?_,?_⟩
 refine aat rfl Y1o (q3z (n:=g.length) (c:=g.length) (bytes:=1) rfl (by decide) (congrArg (fun k:Nat=>AV.int .i64 (k:Int)) hml) (congrArg (fun k:Nat=>AV.int .i64 (k:Int)) hml) (Nat.le_refl _) (by omega) (by omega) rfl) ?_
 refine aqs 6 rfl Y1v Y1f Y1o (q3z (n:=g.length) (c:=g.length) (bytes:=24) rfl (by decide) (congrArg (fun k:Nat=>AV.int .i64 (k:Int)) hml) (congrArg (fun k:Nat=>AV.int .i64 (k:Int)) hml) (Nat.le_refl _) (by omega) (by omega) rfl) ?_
 refine Zj9 ?_
 refine Zja ?_
 refine Zjb ?_
 refine Z1l ?_
 refine Zjc ?_
 rotate_left
 refine aat rfl Y1o (q3z (n:=g.length) (c:=g.length) (bytes:=24) rfl (by decide) (congrArg (fun k:Nat=>AV.int .i64 (k:Int)) hml) (congrArg (fun k:Nat=>AV.int .i64 (k:Int)) hml) (Nat.le_refl _) (by omega) (by omega) rfl) ?_
 refine aqs 3 rfl Y1v Y1f Y1o (q3z (n:=g.length) (c:=g.length) (bytes:=1) rfl (by decide) (congrArg (fun k:Nat=>AV.int .i64 (k:Int)) hml) (congrArg (fun k:Nat=>AV.int .i64 (k:Int)) hml) (Nat.le_refl _) (by omega) (by omega) rfl) ?_
 refine Zj9 ?_
 refine Zja ?_
 refine Zjb ?_
 refine Z1l ?_
 refine Zjc ?_
 rotate_left
 ·refine Z7b ?_
  refine qfh (pk:=2) (M:=g.length) rfl (by decide) ?_ rfl
  refine qm (G:=Nat) (fun k=>k≤free.length) (fun k=>[(0,.pl (g.map qq)),(7,.pt (Lid H.length 3) 0 0 0),(22,.pl (free.map eI)),(23,.int .i64 (free.length:Int)),(24,.int .i64 (k:Int))]) (fun k=>H++([⟨0,7,[q1k s]⟩,⟨0,1,q2k g (free.take k)⟩,⟨0,1,gk H.length g.length g.length⟩,⟨0,10,[eSk g H.length 1 2 s]⟩]++List.replicate g.length ⟨0,1,[]⟩)) (fun k=>free.length-k) 0 (Nat.zero_le _) Y8 (.inl (by rw [List.take_zero,qht];rfl)) ?_
  intro k hk
  refine Z2 ?_
  refine Zje ?_
  refine qa rfl (fun hc=>?_) (fun hc=>?_)
  ·have hlt:k<free.length:=by simpa using hc
   obtain ⟨x,hx,hxl⟩:=qo hlt
   have hr:=ql eI hx
   have hx0:=q7s hf hxl
   obtain ⟨m,rfl⟩:∃ m:Nat,x=(m:Int):=⟨x.toNat,by omega⟩
   clear hc
   refine Zf8 ?_
   refine Z6h ?_
   refine qa rfl (fun hc=>?_) (fun hc=>?_)
   ·have hm:m<g.length:=by simp at hc;omega
    have hrow:(q2k g (free.take k))[0+m]?=some [.bool (inl (free.take k) m)]:=by rw [Nat.zero_add];exact q72 hm
    clear hc
    refine Zid ?_
    refine Zjf ?_
    refine Zjg ?_
    refine Zb4 ?_
    refine Zjh ?_
    refine qe ?_
    refine Ziu ?_
    refine Z4f ?_
    exact ⟨k+1,by omega,by omega,Y8,.inl (by rw [Nat.zero_add,qhq hx])⟩
   ·have hm:(g.length:Int)≤(m:Int):=by simp at hc;omega
    clear hc
    refine Z4f ?_
    exact ⟨k+1,by omega,by omega,Y8,.inl (by rw [qek hx hm])⟩
  have:k=free.length:=by simp at hc;omega
  subst this
  clear hc
  rw [List.take_length]
  refine Z7b ?_
  refine qm (G:=Nat) (fun i=>i≤g.length) (fun i=>[(7,.pt (Lid H.length 3) 0 0 0),(39,.pl (g.map qq)),(40,.int .i64 (g.length:Int)),(41,.int .i64 (i:Int))]) (fun i=>H++([⟨0,7,[q1k s]⟩,⟨0,1,q2k g free⟩,⟨0,1,q2e H.length (q3d g i) g.length 0⟩,⟨0,10,[eSk g H.length 1 2 s]⟩]++q4d (q3d g i) g.length 0)) (fun i=>g.length-i) 0 (Nat.zero_le _) Y8 (.inl (by rw [qx5,qol];rfl)) ?_
  intro i hi
  refine Z2 ?_
  refine Zje ?_
  refine qa rfl (fun hc=>?_) (fun hc=>?_)
  ·have hlt:i<g.length:=by simpa using hc
   obtain ⟨t,ht,htl⟩:=qo hlt
   have hr:=ql qq ht
   clear hc
   generalize hM:H++([⟨0,7,[q1k s]⟩,⟨0,1,q2k g free⟩,⟨0,1,q2e H.length (q3d g i) g.length 0⟩,⟨0,10,[eSk g H.length 1 2 s]⟩]++q4d (q3d g i) g.length 0)=M
   refine Zji ?_
   have hS:M[Lid H.length 3]?=some ⟨0,10,[eSk g H.length 1 2 s]⟩:=by rw [← hM];exact lk rfl rfl
   have hK:M[Lid H.length 2]?=some ⟨0,1,q2e H.length (q3d g i) g.length 0⟩:=by rw [← hM];exact lk rfl rfl
   have hF:=hS
   refine Z9e ?_
   refine Z9f ?_
   refine Z3 ?_
   refine Z9g ?_
   refine Z9h ?_
   refine Z4o ?_
   refine Z2b ?_
   refine Z3z ?_
   refine qa rfl (fun hc=>?_) (fun hc=>?_)
   ·have h2:2<t.kind:=by simpa using hc
    obtain ⟨u,hu,hui⟩:=qhk hg ht h2
    clear hc
    obtain ⟨kd,up,tag⟩:=t
    simp only at hu h2
    subst hu
    have hug:u<g.length:=by omega
    have hR:M[Lid H.length (u+4)]?=some ⟨(q3d g i u).length,1,(q3d g i u).map eN1⟩:=by rw [← hM];exact lk rfl (show (q4d (q3d g i) g.length 0)[u]?=_ from qkl _ hug)
    have hcell:=qhg (n:=H.length) (q3d g i) hug
    have hle:=qws g i u
    have hF3:(M.set (Lid H.length (u+4)) ⟨(q3d g i u).length+1,1,((q3d g i u).map eN1).take (q3d g i u).length++[[.int .i64 (i:Int)]]⟩)[Lid H.length 3]?=some ⟨0,10,[eSk g H.length 1 2 s]⟩:=by rw [List.getElem?_set_ne Y1s];exact hS
    have hK3:(M.set (Lid H.length (u+4)) ⟨(q3d g i u).length+1,1,((q3d g i u).map eN1).take (q3d g i u).length++[[.int .i64 (i:Int)]]⟩)[Lid H.length 2]?=some ⟨0,1,q2e H.length (q3d g i) g.length 0⟩:=by rw [List.getElem?_set_ne Y1s];exact hK
    refine Zjj ?_
    refine Z82 ?_
    refine Zgj ?_
    refine Zjk ?_
    refine Zjl ?_
    refine qn6 3 rfl Y1v (by decide) (fun M G hn hp hp2=>qh (v:=.sl (H.length+2) 0 0 g.length g.length) rfl (lkF hp) rfl rfl rfl) ?_
    refine Zjm ?_
    refine Zjn ?_
    refine Zjo ?_
    refine Zjp ?_
    refine Zjq ?_
    refine qn6 9 rfl Y1v (by decide) (fun M G hn hp hp2=>qh (v:=.sl (H.length+2) 0 0 g.length g.length) rfl (lkF hp) rfl rfl rfl) ?_
    refine Zjr ?_
    refine Zjs ?_
    refine Zjt ?_
    refine Zju ?_
    refine Zjv ?_
    refine Zjw ?_
    refine Zjx ?_
    refine Zjy ?_
    refine Zjz ?_
    refine Z7i ?_
    refine Zk0 ?_
    refine Z4f ?_
    refine ⟨i+1,by omega,by omega,Y8,qe5 (M':=H++(([⟨0,7,[q1k s]⟩,⟨0,1,q2k g free⟩,⟨0,1,q2e H.length (q3d g (i+1)) g.length 0⟩,⟨0,10,[eSk g H.length 1 2 s]⟩]++q4d (q3d g (i+1)) g.length 0)++[⟨0,3,[qq ⟨kd,(u:Int),tag⟩]⟩])) ?_ (Fit.loc hB rfl Y1 (qpe Y1n Yi (q69 _ g free) (q98 _ _ _) Y5))⟩
    rw [← hM,qov,qov,Nat.zero_add,qho ht h2 rfl,← List.append_assoc,← qjs ht h2 rfl]
    rfl
   ·have h2:¬ 2<t.kind:=by simpa using hc
    have hsame:=qjn (n:=H.length) ht h2
    clear hc
    refine Z4f ?_
    refine ⟨i+1,by omega,by omega,Y8,qe5 (M':=H++(([⟨0,7,[q1k s]⟩,⟨0,1,q2k g free⟩,⟨0,1,q2e H.length (q3d g (i+1)) g.length 0⟩,⟨0,10,[eSk g H.length 1 2 s]⟩]++q4d (q3d g (i+1)) g.length 0)++[⟨0,3,[qq t]⟩])) ?_ (Fit.loc hB rfl Y1 (qpe Y1n Yi (q69 _ g free) (q98 _ _ _) Y5))⟩
    rw [← hM,hsame.1,hsame.2,List.append_assoc]
  have:i=g.length:=by simp at hc;omega
  subst this
  clear hc
  refine Zi0 ?_
  refine Zk1 ?_
  refine Z3l ?_
  refine qd2 (L:=[⟨0,7,[q1k s]⟩,⟨0,1,q2k g free⟩,⟨0,1,q2e H.length (q3d g g.length) g.length 0⟩,⟨0,10,[eSk g H.length 1 2 s]⟩]) (M:=g.length) (pk:=2) (f:=q3d g g.length) rfl (by decide) ?_ rfl
  refine q76 (ys:=q2k g free) (i:=0) (j:=1) (k:=3) (kid:=1) 3 rfl rfl rfl rfl rfl (by decide) rfl rfl (by rw [List.drop_zero];exact List.take_of_length_le (by simp [q2k])) (qhc g free) (q69 0 g free) ?_
  refine q76 (ys:=qsa g) (i:=0) (j:=2) (k:=3) (kid:=2) 3 rfl rfl rfl rfl rfl (by decide) rfl rfl (by rw [List.drop_zero,qgs];exact List.take_of_length_le (by simp [qsa])) (qph g) (qpg 0 g) ?_
  refine q2y ?_
  exact qag (K:=[⟨0,7,[q1k s]⟩,⟨1,1,[]⟩,⟨1,1,[]⟩,⟨0,10,[qs6 g free s]⟩]) (G:=q4d (q3d g g.length) g.length g.length) hB (q2n rfl .nil) rfl rfl Y1q (by intro o ho r hr;simp only [List.mem_cons,List.not_mem_nil,or_false] at ho;rcases ho with rfl | rfl | rfl | rfl<;>simp only [List.mem_singleton,List.not_mem_nil] at hr<;>subst hr<;>rfl)
 ·refine Z7b ?_
  refine qfh (pk:=1) (M:=g.length) rfl (by decide) ?_ rfl
  refine qm (G:=Nat) (fun k=>k≤free.length) (fun k=>[(0,.pl (g.map qq)),(7,.pt (Lid H.length 3) 0 0 0),(22,.pl (free.map eI)),(23,.int .i64 (free.length:Int)),(24,.int .i64 (k:Int))]) (fun k=>H++([⟨0,7,[q1k s]⟩,⟨0,1,gk H.length g.length g.length⟩,⟨0,1,q2k g (free.take k)⟩,⟨0,10,[eSk g H.length 2 1 s]⟩]++List.replicate g.length ⟨0,1,[]⟩)) (fun k=>free.length-k) 0 (Nat.zero_le _) Y8 (.inl (by rw [List.take_zero,qht];rfl)) ?_
  intro k hk
  refine Z2 ?_
  refine Zje ?_
  refine qa rfl (fun hc=>?_) (fun hc=>?_)
  ·have hlt:k<free.length:=by simpa using hc
   obtain ⟨x,hx,hxl⟩:=qo hlt
   have hr:=ql eI hx
   have hx0:=q7s hf hxl
   obtain ⟨m,rfl⟩:∃ m:Nat,x=(m:Int):=⟨x.toNat,by omega⟩
   clear hc
   refine Zf8 ?_
   refine Z6h ?_
   refine qa rfl (fun hc=>?_) (fun hc=>?_)
   ·have hm:m<g.length:=by simp at hc;omega
    have hrow:(q2k g (free.take k))[0+m]?=some [.bool (inl (free.take k) m)]:=by rw [Nat.zero_add];exact q72 hm
    clear hc
    refine Zid ?_
    refine Zjf ?_
    refine Zjg ?_
    refine Zb4 ?_
    refine Zjh ?_
    refine qe ?_
    refine Ziu ?_
    refine Z4f ?_
    exact ⟨k+1,by omega,by omega,Y8,.inl (by rw [Nat.zero_add,qhq hx])⟩
   ·have hm:(g.length:Int)≤(m:Int):=by simp at hc;omega
    clear hc
    refine Z4f ?_
    exact ⟨k+1,by omega,by omega,Y8,.inl (by rw [qek hx hm])⟩
  have:k=free.length:=by simp at hc;omega
  subst this
  clear hc
  rw [List.take_length]
  refine Z7b ?_
  refine qm (G:=Nat) (fun i=>i≤g.length) (fun i=>[(7,.pt (Lid H.length 3) 0 0 0),(39,.pl (g.map qq)),(40,.int .i64 (g.length:Int)),(41,.int .i64 (i:Int))]) (fun i=>H++([⟨0,7,[q1k s]⟩,⟨0,1,q2e H.length (q3d g i) g.length 0⟩,⟨0,1,q2k g free⟩,⟨0,10,[eSk g H.length 2 1 s]⟩]++q4d (q3d g i) g.length 0)) (fun i=>g.length-i) 0 (Nat.zero_le _) Y8 (.inl (by rw [qx5,qol];rfl)) ?_
  intro i hi
  refine Z2 ?_
  refine Zje ?_
  refine qa rfl (fun hc=>?_) (fun hc=>?_)
  ·have hlt:i<g.length:=by simpa using hc
   obtain ⟨t,ht,htl⟩:=qo hlt
   have hr:=ql qq ht
   clear hc
   generalize hM:H++([⟨0,7,[q1k s]⟩,⟨0,1,q2e H.length (q3d g i) g.length 0⟩,⟨0,1,q2k g free⟩,⟨0,10,[eSk g H.length 2 1 s]⟩]++q4d (q3d g i) g.length 0)=M
   refine Zji ?_
   have hS:M[Lid H.length 3]?=some ⟨0,10,[eSk g H.length 2 1 s]⟩:=by rw [← hM];exact lk rfl rfl
   have hK:M[Lid H.length 1]?=some ⟨0,1,q2e H.length (q3d g i) g.length 0⟩:=by rw [← hM];exact lk rfl rfl
   have hF:=hS
   refine Z9e ?_
   refine Z9f ?_
   refine Z3 ?_
   refine Z9g ?_
   refine Z9h ?_
   refine Z4o ?_
   refine Z2b ?_
   refine Z3z ?_
   refine qa rfl (fun hc=>?_) (fun hc=>?_)
   ·have h2:2<t.kind:=by simpa using hc
    obtain ⟨u,hu,hui⟩:=qhk hg ht h2
    clear hc
    obtain ⟨kd,up,tag⟩:=t
    simp only at hu h2
    subst hu
    have hug:u<g.length:=by omega
    have hR:M[Lid H.length (u+4)]?=some ⟨(q3d g i u).length,1,(q3d g i u).map eN1⟩:=by rw [← hM];exact lk rfl (show (q4d (q3d g i) g.length 0)[u]?=_ from qkl _ hug)
    have hcell:=qhg (n:=H.length) (q3d g i) hug
    have hle:=qws g i u
    have hF3:(M.set (Lid H.length (u+4)) ⟨(q3d g i u).length+1,1,((q3d g i u).map eN1).take (q3d g i u).length++[[.int .i64 (i:Int)]]⟩)[Lid H.length 3]?=some ⟨0,10,[eSk g H.length 2 1 s]⟩:=by rw [List.getElem?_set_ne Y1s];exact hS
    have hK3:(M.set (Lid H.length (u+4)) ⟨(q3d g i u).length+1,1,((q3d g i u).map eN1).take (q3d g i u).length++[[.int .i64 (i:Int)]]⟩)[Lid H.length 1]?=some ⟨0,1,q2e H.length (q3d g i) g.length 0⟩:=by rw [List.getElem?_set_ne Y1s];exact hK
    refine Zjj ?_
    refine Z82 ?_
    refine Zgj ?_
    refine Zjk ?_
    refine Zjl ?_
    refine qn6 3 rfl Y1v (by decide) (fun M G hn hp hp2=>qh (v:=.sl (H.length+1) 0 0 g.length g.length) rfl (lkF hp) rfl rfl rfl) ?_
    refine Zjm ?_
    refine Zjn ?_
    refine Zjo ?_
    refine Zjp ?_
    refine Zjq ?_
    refine qn6 9 rfl Y1v (by decide) (fun M G hn hp hp2=>qh (v:=.sl (H.length+1) 0 0 g.length g.length) rfl (lkF hp) rfl rfl rfl) ?_
    refine Zjr ?_
    refine Zjs ?_
    refine Zjt ?_
    refine Zju ?_
    refine Zjv ?_
    refine Zjw ?_
    refine Zjx ?_
    refine Zjy ?_
    refine Zjz ?_
    refine Z7i ?_
    refine Zk0 ?_
    refine Z4f ?_
    refine ⟨i+1,by omega,by omega,Y8,qe5 (M':=H++(([⟨0,7,[q1k s]⟩,⟨0,1,q2e H.length (q3d g (i+1)) g.length 0⟩,⟨0,1,q2k g free⟩,⟨0,10,[eSk g H.length 2 1 s]⟩]++q4d (q3d g (i+1)) g.length 0)++[⟨0,3,[qq ⟨kd,(u:Int),tag⟩]⟩])) ?_ (Fit.loc hB rfl Y1 (qpe Y1n Yi (q98 _ _ _) (q69 _ g free) Y5))⟩
    rw [← hM,qov,qov,Nat.zero_add,qho ht h2 rfl,← List.append_assoc,← qjs ht h2 rfl]
    rfl
   ·have h2:¬ 2<t.kind:=by simpa using hc
    have hsame:=qjn (n:=H.length) ht h2
    clear hc
    refine Z4f ?_
    refine ⟨i+1,by omega,by omega,Y8,qe5 (M':=H++(([⟨0,7,[q1k s]⟩,⟨0,1,q2e H.length (q3d g (i+1)) g.length 0⟩,⟨0,1,q2k g free⟩,⟨0,10,[eSk g H.length 2 1 s]⟩]++q4d (q3d g (i+1)) g.length 0)++[⟨0,3,[qq t]⟩])) ?_ (Fit.loc hB rfl Y1 (qpe Y1n Yi (q98 _ _ _) (q69 _ g free) Y5))⟩
    rw [← hM,hsame.1,hsame.2,List.append_assoc]
  have:i=g.length:=by simp at hc;omega
  subst this
  clear hc
  refine Zi0 ?_
  refine Zk1 ?_
  refine Z3l ?_
  refine qd2 (L:=[⟨0,7,[q1k s]⟩,⟨0,1,q2e H.length (q3d g g.length) g.length 0⟩,⟨0,1,q2k g free⟩,⟨0,10,[eSk g H.length 2 1 s]⟩]) (M:=g.length) (pk:=1) (f:=q3d g g.length) rfl (by decide) ?_ rfl
  refine q76 (ys:=q2k g free) (i:=0) (j:=1) (k:=3) (kid:=2) 3 rfl rfl rfl rfl rfl (by decide) rfl rfl (by rw [List.drop_zero];exact List.take_of_length_le (by simp [q2k])) (qhc g free) (q69 0 g free) ?_
  refine q76 (ys:=qsa g) (i:=0) (j:=2) (k:=3) (kid:=1) 3 rfl rfl rfl rfl rfl (by decide) rfl rfl (by rw [List.drop_zero,qgs];exact List.take_of_length_le (by simp [qsa])) (qph g) (qpg 0 g) ?_
  refine q2y ?_
  exact qag (K:=[⟨0,7,[q1k s]⟩,⟨1,1,[]⟩,⟨1,1,[]⟩,⟨0,10,[qs6 g free s]⟩]) (G:=q4d (q3d g g.length) g.length g.length) hB (q2n rfl .nil) rfl rfl Y1q (by intro o ho r hr;simp only [List.mem_cons,List.not_mem_nil,or_false] at ho;rcases ho with rfl | rfl | rfl | rfl<;>simp only [List.mem_singleton,List.not_mem_nil] at hr<;>subst hr<;>rfl)
theorem qkd (g:List Thing) (free:List Int) (kind most:Int):q8o g free kind most []=[]:=by simp [q8o]
theorem q11r (l:List Int):∀ r∈l.map eN1,r.length=1:=q52 (e:=eN1) (n:=1) (fun _=>rfl) l
set_option maxHeartbeats 0 in
theorem qgv (g:List Thing) (free:List Int) (s:Spec) (node:Nat) (kind most:Int) (p:Nat) (H:qf) (hg:q2f g=true) (hn:node<g.length) (hid:H[p]?=some ⟨0,10,[qs6 g free s]⟩):AC Tryz.prog 259 [.pt p 0 0 0,.int .i64 (node:Int),.int .i64 kind,.int .i64 most] H (Ret (.pl ((q8i g free node kind most).map eN1)) H):=by
 have hF:=hid
 have hp0:p<H.length:=(List.getElem?_eq_some_iff.1 hid).1
 have hkr:=qq0 hn
 have hkl:=qbf hg node
 have hmem:∀ x∈q6k g node,∃ k:Nat,x=(k:Int)∧k<g.length:=fun x hx=>qop hx
 rw [qwr]
 generalize q6k g node=l at hkr hkl hmem
 refine AC.body (N:=55) [.tmp 8] Tryz.func259 rfl rfl rfl (Nat.le_of_ble_eq_true rfl) fun B hB=>?_
 refine Z3f ?_
 refine Z3m ?_
 refine q1v (k:=0) 9 1 rfl (by decide) rfl ?_
 refine Zid ?_
 refine Zi2 ?_
 refine Zi4 ?_
 refine Z8 ?_
 refine Zk2 ?_
 refine Zk3 ?_
 refine Zaz ?_
 refine Zk4 ?_
 refine Z1d ?_
 refine qm (G:=Nat) (fun k=>k≤l.length) (fun k=>[(0,.pt p 0 0 0),(2,.int .i64 kind),(3,.int .i64 most),(9,.sl (Lid H.length 0) (q8o g free kind most (l.take k)).length 0 (q8o g free kind most (l.take k)).length (q8o g free kind most (l.take k)).length),(18,.pl (l.map eN1)),(19,.int .i64 (l.length:Int)),(20,.int .i64 (k:Int))]) (fun k=>H++[⟨(q8o g free kind most (l.take k)).length,1,(q8o g free kind most (l.take k)).map eN1⟩]) (fun k=>l.length-k) 0 (Nat.zero_le _) (by simp only [List.take_zero,qkd];exact Y8) (.inl (by rw [List.take_zero,qkd];rfl)) ?_
 intro k hk
 refine Z43 ?_
 refine qa rfl (fun hc=>?_) (fun hc=>?_)
 ·have hlt:k<l.length:=by simpa using hc
  obtain ⟨x,hx,hxl⟩:=qo hlt
  have hr:=ql eN1 hx
  obtain ⟨m,rfl,hm⟩:=hmem x hxl
  obtain ⟨t,ht,_⟩:=qo hm
  have hrT:=ql qq ht
  have hrI:=q72 (l:=free) hm
  have hst:=qrb (g:=g) (free:=free) (kind:=kind) (most:=most) hx
  have hle:=qpt g free kind most (l.take k)
  rw [List.length_take] at hle
  rw [Int.toNat_natCast,show q4f g m=t.kind by rw [q4f,ht]] at hst
  generalize q8o g free kind most (l.take k)=acc at hst hle ⊢
  clear hc hmem hkr
  refine Z47 ?_
  refine Za ?_
  refine qn 48 (.bool (decide ((acc.length:Int)<most)&&(inl free m&&decide (t.kind=kind)))) ?_ ?_
  ·refine Z8s ?_
   refine Zk5 ?_
   refine Zw ?_
   refine qb rfl rfl (fun hg4=>?_) (fun hg4=>?_)
   ·refine Zk6 ?_
    refine Zk7 ?_
    refine Zk8 ?_
    refine q1c rfl rfl (by decide) (qh (v:=.pl (q2k g free)) rfl (lkF hF) rfl rfl rfl) ?_
    refine Zj ?_
    refine q1c rfl rfl (by decide) (qz rfl rfl hrI rfl) ?_
    refine q1c rfl rfl (by decide) (q2m (v:=.bool _) rfl hrI rfl) ?_
    refine Z2q ?_
    refine qb rfl rfl (fun hg13=>?_) (fun hg13=>?_)
    ·refine Zk6 ?_
     refine Zk7 ?_
     refine Zk8 ?_
     refine q1c rfl rfl (by decide) (qh (v:=.pl (g.map qq)) rfl (lkF hF) rfl rfl rfl) ?_
     refine Zj ?_
     refine q1c rfl rfl (by decide) (qz rfl rfl hrT rfl) ?_
     refine Zk9 ?_
     refine q1c rfl rfl (by decide) (q2m (v:=.int _ _) rfl hrT rfl) ?_
     refine Z58 ?_
     refine Zm ?_
     exact qe (Out.mk (by (refine congrArg AV.bool ?_;(clear hB hst hr hrT hrI ht;grind))) Yb)
    ·refine Z4m ?_
     refine Z4m ?_
     refine Zs ?_
     exact qe (Out.mk (by (refine congrArg AV.bool ?_;(clear hB hst hr hrT hrI ht;(simp_all;done)))) Yb)
   ·refine Zq ?_
    refine Z72 ?_
    refine Z4m ?_
    refine Z4m ?_
    refine Zs ?_
    exact qe (Out.mk (by (refine congrArg AV.bool ?_;(clear hB hst hr hrT hrI ht;(simp_all;omega)))) Yb)
  refine Z1 ?_
  refine qa rfl (fun hc=>?_) (fun hc=>?_)
  ·rw [if_pos hc] at hst
   refine Zb3 ?_
   refine Z8 ?_
   refine Z8v ?_
   refine Z8y ?_
   refine Zbs ?_
   rw [show (acc.map eN1).take acc.length=acc.map eN1 from List.take_of_length_le (by simp)]
   refine Z4f ?_
   exact ⟨k+1,by omega,by omega,by rw [hst,List.length_append];exact Y8,by rw [hst,List.length_append];exact Fit.loc hB Y1e Y1 (by intro o ho r hr;simp only [List.mem_singleton] at ho;subst ho;exact q3a _ _ r hr)⟩
  ·rw [if_neg Y1u] at hst
   refine Z4f ?_
   exact ⟨k+1,by omega,by omega,by rw [hst];exact Y8,by rw [hst];exact Fit.refl _ _⟩
 ·have:k=l.length:=by simp at hc;omega
  subst this
  rw [List.take_length]
  refine Z91 ?_
  refine qr (ys:=(q8o g free kind most l).map eN1) 8 rfl rfl rfl rfl Yn (by simp) (q3a 0 _) ?_
  exact Z92
set_option maxHeartbeats 0 in
theorem qqx (g:List Thing) (free:List Int) (s:Spec) (node:Nat) (p:Nat) (H:qf) (hg:q2f g=true) (hn:node<g.length) (hid:H[p]?=some ⟨0,10,[qs6 g free s]⟩):ACT Tryz.prog KD 250 [.pt p 0 0 0,.int .i64 (node:Int)] H (Ret (.tup [.pl ((qcg g free s node).1.map eN1),.bool (qcg g free s node).2]) H):=by
 have hF:=hid
 have hp0:p<H.length:=(List.getElem?_eq_some_iff.1 hid).1
 have hkr:=qq0 hn
 have hkl:=qbf hg node
 have hmem:∀ x∈q6k g node,∃ k:Nat,x=(k:Int)∧k<g.length:=fun x hx=>qop hx
 obtain ⟨t,ht,_⟩:=qo hn
 have hrT:=ql qq ht
 have hrI:=q72 (l:=free) hn
 have l3:=qpq hg free node 3 s.cores
 have l4:=qpq hg free node 4 s.gpus
 refine ACT.body (N:=123) [.tmp 4,.tmp 5] Tryz.func250 rfl rfl rfl (Nat.le_of_ble_eq_true rfl) fun B hB=>?_
 refine Zka ?_
 refine Zi3 ?_
 refine ao1 (by decide) (qh (v:=.pl (g.map qq)) rfl (lkF hF) rfl rfl rfl) ?_
 refine Z8 ?_
 refine ao1 (by decide) (qz rfl rfl hrT rfl) ?_
 refine ao1 (by decide) (q5c rfl hrT rfl) ?_
 refine Z9f ?_
 refine Z9g ?_
 refine qe ?_
 try dsimp only [put,List.length_nil,Nat.reduceAdd,List.nil_append,List.set_cons_zero]
 refine Z1 ?_
 refine q1n 48 (.bool (!(decide (t.kind=2)&&inl free node&&(decide (s.tag=⟨#[]⟩)||decide (t.tag=s.tag))))) ?_ ?_
 ·refine Z9j ?_
  refine Z9k ?_
  refine Z9l ?_
  refine aq0 2 rfl Y1v (by decide) (fun _=>qyn rfl rfl) ?_
  refine Z7q ?_
  refine q13 (g:=21) rfl (fun hg3=>?_) (fun hg3=>?_)
  ·refine Zkb ?_
   refine Zkc ?_
   refine Zkd ?_
   refine Zd5 ?_
   refine Zd6 ?_
   refine Zd7 ?_
   refine Zd8 ?_
   refine Zd9 ?_
   refine Zke ?_
   refine Zkf ?_
   refine Zkg ?_
   refine Zkh ?_
   refine Zki ?_
   refine Zkj ?_
   refine Zkk ?_
   refine Zkl ?_
   refine Zkm ?_
   refine Zkn ?_
   refine Zko ?_
   refine Zkp ?_
   refine Zkq ?_
   refine Zkr ?_
   refine Zks ?_
   refine Zkt ?_
   refine Zku ?_
   refine Zkv ?_
   refine Zkw ?_
   exact Zkx
  ·refine q2s (g:=21) 4 rfl Y1v (by decide) rfl rfl (fun _=>qk (v:=.pt _ _ _ _) rfl) ?_
   refine q2x (g:=21) 5 rfl Y1v (by decide) rfl rfl (fun G=>qy rfl (lkF hF) rfl) ?_
   refine q2x (g:=21) 6 rfl Y1v (by decide) rfl rfl (fun G=>qc rfl (lkF hF) rfl (by decide)) ?_
   refine q2x (g:=21) 7 rfl Y1v (by decide) rfl rfl (fun G=>qh (v:=.pl (q2k g free)) rfl (lkF hF) rfl rfl rfl) ?_
   refine q2s (g:=21) 8 rfl Y1v (by decide) rfl rfl (fun _=>qk (v:=.int _ _) rfl) ?_
   refine q2x (g:=21) 9 rfl Y1v (by decide) rfl rfl (fun G=>qz rfl rfl hrI rfl) ?_
   refine q2x (g:=21) 10 rfl Y1v (by decide) rfl rfl (fun G=>q2m (v:=.bool _) rfl hrI rfl) ?_
   refine q2s (g:=21) 11 rfl Y1v (by decide) rfl rfl (fun _=>qa2 rfl) ?_
   refine Zky ?_
   refine Zkf ?_
   refine q13 (g:=31) rfl (fun hg13=>?_) (fun hg13=>?_)
   ·refine Zkg ?_
    refine Zkh ?_
    refine Zki ?_
    refine Zkj ?_
    refine Zkk ?_
    refine Zkl ?_
    refine Zkm ?_
    refine Zkn ?_
    refine Zko ?_
    refine Zkp ?_
    refine Zkq ?_
    refine Zkr ?_
    refine Zks ?_
    refine Zkt ?_
    refine Zku ?_
    refine Zkv ?_
    refine Zkw ?_
    exact Zkx
   ·refine q2s (g:=31) 14 rfl Y1v (by decide) rfl rfl (fun _=>qk (v:=.pt _ _ _ _) rfl) ?_
    refine q2x (g:=31) 15 rfl Y1v (by decide) rfl rfl (fun G=>qy rfl (lkF hF) rfl) ?_
    refine q2x (g:=31) 16 rfl Y1v (by decide) rfl rfl (fun G=>qc rfl (lkF hF) rfl (by decide)) ?_
    refine q2x (g:=31) 17 rfl Y1v (by decide) rfl rfl (fun G=>qc rfl (lkF hF) rfl (by decide)) ?_
    refine q2x (g:=31) 18 rfl Y1v (by decide) rfl rfl (fun G=>qh (v:=.str s.tag) rfl (lkF hF) rfl rfl rfl) ?_
    refine q2s (g:=31) 19 rfl Y1v (by decide) rfl rfl (fun _=>qp5 rfl rfl) ?_
    refine q2s (g:=31) 20 rfl Y1v (by decide) rfl rfl (fun _=>qk (v:=.bool _) rfl) ?_
    refine q13 (g:=38) rfl (fun hg20=>?_) (fun hg20=>?_)
    ·refine q2x (g:=38) 21 rfl Y1v (by decide) rfl rfl (fun G=>qc rfl (lk rfl rfl) rfl (by decide)) ?_
     refine q2x (g:=38) 22 rfl Y1v (by decide) rfl rfl (fun G=>qh (v:=.str _) rfl (lk rfl rfl) rfl rfl rfl) ?_
     refine q2s (g:=38) 23 rfl Y1v (by decide) rfl rfl (fun _=>qk (v:=.pt _ _ _ _) rfl) ?_
     refine q2x (g:=38) 24 rfl Y1v (by decide) rfl rfl (fun G=>qy rfl (lkF hF) rfl) ?_
     refine q2x (g:=38) 25 rfl Y1v (by decide) rfl rfl (fun G=>qc rfl (lkF hF) rfl (by decide)) ?_
     refine q2x (g:=38) 26 rfl Y1v (by decide) rfl rfl (fun G=>qc rfl (lkF hF) rfl (by decide)) ?_
     refine q2x (g:=38) 27 rfl Y1v (by decide) rfl rfl (fun G=>qh (v:=.str s.tag) rfl (lkF hF) rfl rfl rfl) ?_
     refine q2s (g:=38) 28 rfl Y1v (by decide) rfl rfl (fun _=>qp5 rfl rfl) ?_
     refine q2s (g:=31) 29 rfl Y1v (by decide) rfl rfl (fun _=>q1q (v:=.bool _) rfl rfl) ?_
     refine Zkz ?_
     exact Zkx
    ·refine q17 (g:=38) 21 rfl Y1v (by decide) rfl rfl rfl ?_
     refine q17 (g:=38) 22 rfl Y1v (by decide) rfl rfl rfl ?_
     refine q17 (g:=38) 23 rfl Y1v (by decide) rfl rfl rfl ?_
     refine q17 (g:=38) 24 rfl Y1v (by decide) rfl rfl rfl ?_
     refine q17 (g:=38) 25 rfl Y1v (by decide) rfl rfl rfl ?_
     refine q17 (g:=38) 26 rfl Y1v (by decide) rfl rfl rfl ?_
     refine q17 (g:=38) 27 rfl Y1v (by decide) rfl rfl rfl ?_
     refine q17 (g:=38) 28 rfl Y1v (by decide) rfl rfl rfl ?_
     refine q2s (g:=31) 29 rfl Y1v (by decide) rfl rfl (fun _=>q1r (v:=.bool _) rfl rfl) ?_
     refine Zkz ?_
     exact Zkx
 have hmh:qcg g free s node=if !(decide (t.kind=2)&&inl free node&&(decide (s.tag=⟨#[]⟩)||decide (t.tag=s.tag))) then ([],false)
  else if decide (((q8i g free node 3 s.cores).length:Int)<s.cores)||decide (((q8i g free node 4 s.gpus).length:Int)<s.gpus) then ([],false)
  else if !s.whole then (qep (q8i g free node 3 s.cores) (q8i g free node 4 s.gpus),true)
  else if (q6k g node).all (fun n=>inl free n.toNat) then ((node:Int) :: q6k g node,true) else ([],false):=by
  rw [qcg,show q4f g node=t.kind by rw [q4f,ht],show q11l g node=t.tag by rw [q11l,ht]]
 rw [hmh]
 clear hmh
 refine Z1 ?_
 refine qa rfl (fun hc=>?_) (fun hc=>?_)
 ·rw [if_pos hc]
  refine Zka ?_
  try dsimp only
  refine Z1d ?_
  refine q26 4 rfl ?_
  exact Zhj
 rw [if_neg Y1u]
 clear hc
 have ck3:=fun H=>qgv g free s node 3 s.cores p H hg hn
 have ck4:=fun H=>qgv g free s node 4 s.gpus p H hg hn
 generalize q8i g free node 3 s.cores=c3 at ck3 l3 ⊢
 generalize q8i g free node 4 s.gpus=c4 at ck4 l4 ⊢
 refine Z1 ?_
 refine Z9j ?_
 refine Zgj ?_
 refine Z1j ?_
 refine aq0 2 rfl Y1v (by decide) (fun _=>qk (v:=.pt _ _ _ _) rfl) ?_
 refine aqp 3 rfl Y1v (by decide) (fun G=>qy rfl (lkF hF) rfl) ?_
 refine Zl0 ?_
 refine aqp 5 rfl Y1v (by decide) (fun G=>qc rfl (lkF hF) rfl (by decide)) ?_
 refine aqp 6 rfl Y1v (by decide) (fun G=>qh (v:=.int .i64 s.cores) rfl (lkF hF) rfl rfl rfl) ?_
 refine aqp2 7 rfl Y1v (by decide) (fun G=>V2.call (ck3 _ (lkF hF)) rfl) ?_
 refine aq0 8 rfl Y1v (by decide) (fun _=>qk (v:=.pt _ _ _ _) rfl) ?_
 refine Zj1 ?_
 refine Zgt ?_
 refine Zgu ?_
 refine Zgv ?_
 refine Zgw ?_
 refine aqp 14 rfl Y1v (by decide) (fun G=>qh (v:=.int .i64 s.gpus) rfl (lkF hF) rfl rfl rfl) ?_
 refine aqp2 15 rfl Y1v (by decide) (fun G=>V2.call (ck4 _ (lkF hF)) rfl) ?_
 refine Zl1 ?_
 refine Zgy ?_
 refine Zgz ?_
 refine Z1 ?_
 refine qn 82 (.bool (decide ((c3.length:Int)<s.cores)||decide ((c4.length:Int)<s.gpus))) ?_ ?_
 ·refine Z6c ?_
  refine Zie ?_
  refine Zi1 ?_
  refine ao1 (by decide) (qh (v:=.int .i64 s.cores) rfl (lkF hF) rfl rfl rfl) ?_
  refine Zv ?_
  refine qb rfl rfl (fun hg8=>?_) (fun hg8=>?_)
  ·refine Z48 ?_
   refine Z49 ?_
   exact qe (Out.mk (by (refine congrArg AV.bool ?_;(clear hB ck3 ck4 hmem hkr;(simp_all;done)))) Yb)
  ·refine Z9b ?_
   refine Zk6 ?_
   refine Zk7 ?_
   refine Zk8 ?_
   refine Zk8 ?_
   refine q1c rfl rfl (by decide) (qh (v:=.int .i64 s.gpus) rfl (lkF hF) rfl rfl rfl) ?_
   refine Zk ?_
   refine Zr ?_
   exact qe (Out.mk (by (refine congrArg AV.bool ?_;(clear hB ck3 ck4 hmem hkr;(simp_all;omega)))) Yb)
 refine Z1 ?_
 refine qa rfl (fun hc=>?_) (fun hc=>?_)
 ·rw [if_pos hc]
  refine Zka ?_
  try dsimp only
  refine Z1d ?_
  refine q26 4 rfl ?_
  exact Zhj
 rw [if_neg Y1u]
 clear hc ck3 ck4
 refine Zi3 ?_
 refine Zi1 ?_
 refine ao1 (by decide) (qh (v:=.bool s.whole) rfl (lkF hF) rfl rfl rfl) ?_
 refine Z19 ?_
 refine Z3z ?_
 refine qa rfl (fun hc=>?_) (fun hc=>?_)
 ·rw [if_pos hc]
  refine Z7y ?_
  refine ao2 Y1o (V2.callT (qja c3 c4 (by omega) (by omega) _) rfl rfl) ?_
  refine Z3p ?_
  refine Zbi ?_
  refine Z1 ?_
  exact Z5b
 rw [if_neg Y1u]
 clear hc
 generalize q6k g node=l at hkr hkl hmem
 refine Zi3 ?_
 refine Zl2 ?_
 refine Z8 ?_
 refine Zk2 ?_
 refine Zk3 ?_
 refine Z42 ?_
 refine qm (G:=Nat) (fun k=>k≤l.length∧∀ x∈l.take k,inl free x.toNat=true) (fun k=>[(0,.pt p 0 0 0),(1,.int .i64 (node:Int)),(98,.pl (l.map eN1)),(99,.int .i64 (l.length:Int)),(100,.int .i64 (k:Int))]) (fun _=>H++[⟨0,3,[qq t]⟩]) (fun k=>l.length-k) 0 ⟨Nat.zero_le _,by simp⟩ Y8 (.inl rfl) ?_
 rintro k ⟨hk,hno⟩
 refine Z43 ?_
 refine qa rfl (fun hc=>?_) (fun hc=>?_)
 ·have hlt:k<l.length:=by simpa using hc
  obtain ⟨x,hx,hxl⟩:=qo hlt
  have hr:=ql eN1 hx
  obtain ⟨m,rfl,hm⟩:=hmem x hxl
  have hrI2:=q72 (l:=free) hm
  clear hc
  refine Zf8 ?_
  refine Zi3 ?_
  refine ao1 (by decide) (qh (v:=.pl (q2k g free)) rfl (lkF hF) rfl rfl rfl) ?_
  refine Z8 ?_
  refine ao1 (by decide) (qz rfl rfl hrI2 rfl) ?_
  refine ao1 (by decide) (q2m (v:=.bool _) rfl hrI2 rfl) ?_
  refine Z19 ?_
  refine Z3z ?_
  refine qa rfl (fun hc=>?_) (fun hc=>?_)
  ·have hbad:l.all (fun n=>inl free n.toNat)=false:=by
    rw [List.all_eq_false]
    exact ⟨_,hxl,by rw [Int.toNat_natCast];simpa using hc⟩
   rw [if_neg (by rw [hbad];decide)]
   refine Zka ?_
   try dsimp only
   refine Z1d ?_
   refine q26 4 rfl ?_
   exact Zhj
  ·refine Z4f ?_
   refine ⟨k+1,by omega,⟨by omega,?_⟩,Y8,.inl rfl⟩
   rw [qj hx]
   intro y hy
   rcases List.mem_append.1 hy with h | h
   ·exact hno y h
   ·simp only [List.mem_singleton] at h
    subst h
    rw [Int.toNat_natCast]
    simpa using hc
 ·have:k=l.length:=by simp at hc;omega
  subst this
  rw [List.take_length] at hno
  rw [if_pos (List.all_eq_true.2 hno)]
  clear hc
  refine Z11 ?_
  refine ao2 Y1o (q2b (sz:=1) (v:=.int .i64 (node:Int)) (cs:=[.int .i64 (node:Int)]) rfl (by decide) (by decide) rfl rfl rfl rfl rfl) ?_
  refine Zie ?_
  refine Zl2 ?_
  refine Z8 ?_
  refine Zk2 ?_
  refine Zk3 ?_
  refine ao2 Y1o (qoy rfl rfl rfl rfl rfl (Src.pl rfl (q11r l)) rfl (by simp) Y22 Y22) ?_
  refine Z8w ?_
  refine Z1p ?_
  try dsimp only [List.length_cons,List.length_nil,Nat.reduceAdd,put,List.cons_append,List.nil_append,List.take_succ_cons,List.take_zero,List.set_cons_succ,List.set_cons_zero]
  refine Z1d ?_
  refine qr (ys:=((node:Int) :: l).map eN1) 4 rfl rfl rfl rfl (by rw [List.drop_zero];exact List.take_of_length_le Y22) Y22 (q3a 0 _) ?_
  exact Zhj
theorem qv8 (g:List Thing) (free:List Int) (s:Spec) (H:qf) (hl:g.length≤1000000) (hf:free.length≤1000000):AC Tryz.prog 248 [.pl (g.map qq),.pl (free.map eI),.agg (q1k s)] H (Ret (.bool (mmay g free s)) H):=by
 refine AC.body (N:=17) [.tmp 6] Tryz.func248 rfl rfl rfl (Nat.le_of_ble_eq_true rfl) fun B hB=>?_
 refine Z2g ?_
 refine Z2j ?_
 refine qn 6 (.bool (mmay g free s)) ?_ ?_
 ·refine Z3g ?_
  refine Zh1 ?_
  refine Zh ?_
  refine qb rfl rfl (fun hg2=>?_) (fun hg2=>?_)
  ·refine Z99 ?_
   refine Zbw ?_
   refine Z2q ?_
   refine qb rfl rfl (fun hg6=>?_) (fun hg6=>?_)
   ·refine Z4z ?_
    refine Z4y ?_
    refine Zn ?_
    exact Zl3
   ·refine Zt ?_
    exact Zl3
  ·refine Z53 ?_
   refine Zt ?_
   exact Zl3
 exact Z21
theorem V2.callK {P:Program} {N:Nat} {env:Env} {H0 L K:qf} {ty:TypeId} {f:Nat} {xs:Array Operand} {ts:Array TypeId} {vs:List AV} {v v':AV} [FnI P f] (hac:AC P f vs (H0++L) (Ret v' ((H0++L)++K))) (hvs:xs.toList.map (aev env)=vs) (hv:v'=v) :
  V2 P N (.call { callee:=.value (.func f),args:=xs,argTypes:=ts }) ty env (H0++L) v (H0++(L++K)):=by
 subst hv
 have:=V2.call (N:=N) (ty:=ty) (ts:=ts) hac hvs
 rwa [List.append_assoc] at this
set_option maxHeartbeats 0 in
theorem qgp (g:List Thing) (free:List Int) (s:Spec) (H:qf) (hl:g.length≤1000000) (hf:free.length≤1000000):ACT Tryz.prog KD 229 [.pl (g.map qq),.pl (free.map eI),.agg (q1k s)] H (Ret (.tup [.pl ((qb3 g free s).1.map eN1),.bool (qb3 g free s).2]) H):=by
 refine ACT.body (N:=50) [.tmp 6,.tmp 7] Tryz.func229 rfl rfl rfl (Nat.le_of_ble_eq_true rfl) fun B hB=>?_
 refine Z2g ?_
 refine Z3d ?_
 refine Z2i ?_
 refine Z7y ?_
 refine Z36 ?_
 refine q12 (qv8 _ _ _ _ (by omega) (by omega)) rfl (by decide) ?_
 refine Z39 ?_
 refine qa rfl (fun hc=>?_) (fun hc=>?_)
 ·have hno:qb3 g free s=([],false):=by rw [qb3,if_pos hc]
  rw [hno]
  refine Zka ?_
  try dsimp only
  refine Z1d ?_
  refine q26 6 rfl ?_
  exact Zhj
 have hmay:mmay g free s=true:=by simpa only [Bool.not_eq_false'] using hc
 have hmay':=hmay
 simp only [mmay,Bool.and_eq_true] at hmay'
 obtain ⟨⟨hg,hfs⟩,hss⟩:=hmay'
 have hlen:=q30 hg
 have hsf:=q5m hss
 have hfind:qb3 g free s=if 0<(q2i g free s g.length).2 then ([],false) else ((q2i g free s g.length).1,true):=by rw [qb3,hmay];rfl
 rw [hfind]
 clear hc hfind
 refine Z7y ?_
 refine Z36 ?_
 refine ao2 Y1o (V2.callK (v:=.pt (Lid H.length 4) 0 0 0) (qq7 g free s _ hg hfs) rfl (by simp [Lid])) ?_
 refine Zl4 ?_
 refine Zl5 ?_
 refine Z3f ?_
 refine Z4o ?_
 refine Z3c ?_
 refine Z1e ?_
 refine q26 9 rfl ?_
 refine qm (G:=Nat) (fun i=>i≤g.length) (fun i=>[(KT,KD.av),(0,.pl (g.map qq)),(8,.pt (Lid H.length 4) 0 0 0),(9,.pl ((q2i g free s i).1.map eN1)),(10,.int .i64 (q2i g free s i).2),(11,.int .i64 (i:Int))]) (fun _=>H++[⟨0,7,[q1k s]⟩,⟨0,7,[q1k s]⟩,⟨1,1,[]⟩,⟨1,1,[]⟩,⟨0,10,[qs6 g free s]⟩]) (fun i=>g.length-i) 0 (Nat.zero_le _) Y8 (.inl rfl) ?_
 intro i hi
 have hle:=qfp (g:=g) free s i
 have hlf:=qfl (g:=g) free s i
 refine Z1 ?_
 refine qn 32 (.bool (decide (i<g.length)&&decide (0<(q2i g free s i).2))) ?_ ?_
 ·refine Z8 ?_
  refine Z6c ?_
  refine Zv ?_
  refine qb rfl rfl (fun hg4=>?_) (fun hg4=>?_)
  ·refine Z5o ?_
   refine Zm ?_
   exact Zh2
  ·refine Zs ?_
   exact Zj3
 refine Z1 ?_
 refine qa rfl (fun hc=>?_) (fun hc=>?_)
 ·rw [Bool.and_eq_true,decide_eq_true_eq,decide_eq_true_eq] at hc
  obtain ⟨hlt,hpos⟩:=hc
  have hst:q2i g free s (i+1)=if 0<(q2i g free s i).2∧(qcg g free s i).2=true then (qep (q2i g free s i).1 (qcg g free s i).1,(q2i g free s i).2-1) else q2i g free s i:=rfl
  have hml:=qy0 hg free s i
  refine Zi0 ?_
  refine Z8 ?_
  refine ao2 Y1o (V2.callT (qqx g free s i (Lid H.length 4) _ hg hlt (lk rfl rfl)) rfl rfl) ?_
  refine Zi7 ?_
  refine Z5y ?_
  refine Z3p ?_
  refine Zbi ?_
  generalize qcg g free s i=h at hst hml ⊢
  obtain ⟨hx,ok⟩:=h
  simp only at hst hml ⊢
  refine Z29 ?_
  refine Z9 ?_
  refine qa rfl (fun hc=>?_) (fun hc=>?_)
  ·subst hc
   rw [if_pos ⟨hpos,rfl⟩] at hst
   refine Z7y ?_
   refine ao2 Y1o (V2.callT (qja (q2i g free s i).1 hx (by omega) (by omega) _) rfl rfl) ?_
   refine Z3q ?_
   refine Z11 ?_
   refine ao1 (by decide) (q3e (r:=(q2i g free s i).2-1) rfl rfl (qd (by omega) (by omega))) ?_
   refine Z4 ?_
   refine Z6s ?_
   exact ⟨i+1,by omega,by omega,by rw [hst];exact Y8,.inl rfl⟩
  ·subst hc
   rw [if_neg (fun e=>by cases e.2)] at hst
   refine Z6s ?_
   exact ⟨i+1,by omega,by omega,by rw [hst];exact Y8,.inl rfl⟩
 have hend:q2i g free s g.length=q2i g free s i:=by
  rw [Bool.and_eq_false_iff,decide_eq_false_iff_not,decide_eq_false_iff_not] at hc
  rcases hc with h | h
  ·rw [show i=g.length by omega]
  ·have:=qf8 h (g.length-i)
   rw [← this,show i+(g.length-i)=g.length by omega]
 rw [hend]
 clear hc hend
 refine Z11 ?_
 refine Z2c ?_
 refine qa rfl (fun hc=>?_) (fun hc=>?_)
 ·have hp:0<(q2i g free s i).2:=by simpa using hc
  rw [if_pos hp]
  refine Zka ?_
  try dsimp only
  refine Z1d ?_
  refine q26 6 rfl ?_
  exact Zhj
 ·have hp:¬ 0<(q2i g free s i).2:=by simpa using hc
  rw [if_neg hp]
  refine Z3h ?_
  refine Z3p ?_
  refine Z1p ?_
  try dsimp only
  refine Z1 ?_
  exact Z5b
theorem qvj (g:List Thing) (n:Int):(q6f g n).length≤256:=by
 rw [q6f]
 split
 ·rename_i h
  simp only [q84,Bool.and_eq_true] at h
  exact Nat.le_trans (qae _ _) (q30 h.2).2
 ·decide
set_option maxHeartbeats 0 in
theorem qnu (g:List Thing) (s:Spec) (H:qf) (hl:g.length≤1000000):ACT Tryz.prog KD 200 [.pl (g.map qq),.agg (q1k s)] H (Ret (.bool (qjx g s)) H):=by
 have hgl:=qvj g 0
 refine ACT.body (N:=16) [.tmp 4] Tryz.func200 rfl rfl rfl (Nat.le_of_ble_eq_true rfl) fun B hB=>?_
 refine Z2g ?_
 refine Z2j ?_
 refine Z9j ?_
 refine Z6i ?_
 refine Zj6 ?_
 refine q8b 2 rfl Y1v (by decide) (fun _=>V2.call (qg0 _ _ _ (by omega)) rfl) ?_
 refine aqp 3 rfl Y1v (by decide) (fun G=>q1m rfl (lk rfl rfl) rfl rfl rfl) ?_
 refine q8b 4 rfl Y1v (by decide) (fun _=>V2.callT (qgp g (q6f g 0) s _ hl (by omega)) rfl rfl) ?_
 refine aq0 5 rfl Y1v (by decide) (fun _=>qk (v:=.tup _) rfl) ?_
 refine aq0 6 rfl Y1v (by decide) (fun _=>q1o (v:=.pl _) rfl rfl) ?_
 refine aq0 7 rfl Y1v (by decide) (fun _=>q1o (v:=.bool _) rfl rfl) ?_
 refine aq0 8 rfl Y1v (by decide) (fun _=>qx (v:=.pl _) rfl) ?_
 refine aq0 9 rfl Y1v (by decide) (fun _=>qx (v:=.bool _) rfl) ?_
 refine Z1l ?_
 refine Z29 ?_
 exact Z1s
set_option maxHeartbeats 0 in
theorem qfr (F:Nat) [FnI Tryz.prog F] (caps:List AV) (p:Nat→Bool) (l:List Job) (j:Job) (H:qf) (hso:∀ n∈j.needs,∀ L':qf,AC Tryz.prog F (.int .i64 (q1e l n:Int) :: caps) (H++L') (Ret (.bool (p (q1e l n))) (H++L'))) (hl:l.length≤1000000) (hs:l.Pairwise (fun a b=>a.id<b.id)) (hn:j.needs.length≤1000000) :
  AC Tryz.prog 227 [.pl (l.map qv),.agg (qv j),.fn (.func F) [] caps] H (Ret (.bool (j.needs.all fun n=>p (q1e l n))) H):=by
 refine AC.body (N:=29) [.tmp 6] Tryz.func227 rfl rfl rfl (Nat.le_of_ble_eq_true rfl) fun B hB=>?_
 refine Z3t ?_
 refine Z2i ?_
 refine Z3w ?_
 refine Z42 ?_
 refine qm (G:=Nat) (fun k=>k≤j.needs.length∧∀ n∈j.needs.take k,p (q1e l n)=true) (fun k=>[(0,.pl (l.map qv)),(2,.fn (.func F) [] caps),(12,.pl (j.needs.map eI)),(13,.int .i64 (j.needs.length:Int)),(14,.int .i64 (k:Int))]) (fun _=>H++[⟨0,13,[qv j]⟩]) (fun k=>j.needs.length-k) 0 ⟨Nat.zero_le _,by simp⟩ Y8 (.inl rfl) ?_
 rintro k ⟨hk,hno⟩
 refine Z43 ?_
 refine qa rfl (fun hc=>?_) (fun hc=>?_)
 ·have hlt:k<j.needs.length:=by simpa using hc
  obtain ⟨n,hn',hnl⟩:=qo hlt
  have hr:=ql eI hn'
  have hcall:=hso n hnl
  clear hc
  refine Zf8 ?_
  refine Zau ?_
  refine Zf9 ?_
  refine Z62 ?_
  refine Z1u ?_
  refine Z8 ?_
  refine Zl6 ?_
  refine Zl7 ?_
  refine qa rfl (fun hc=>?_) (fun hc=>?_)
  ·have hbad:(j.needs.all fun n=>p (q1e l n))=false:=by rw [List.all_eq_false];exact ⟨n,hnl,by simpa using hc⟩
   refine Zf ?_
   rw [hbad]
   exact Zb
  ·refine Z4f ?_
   refine ⟨k+1,by omega,⟨by omega,?_⟩,Y8,.inl rfl⟩
   rw [qj hn']
   intro y hy
   rcases List.mem_append.1 hy with h | h
   ·exact hno y h
   ·simp only [List.mem_singleton] at h
    subst h
    simpa using hc
 ·have:k=j.needs.length:=by simp at hc;omega
  subst this
  rw [List.take_length] at hno
  refine Zf ?_
  rw [List.all_eq_true.2 hno]
  exact Zb
set_option maxHeartbeats 0 in
theorem qld (l:List Job) (i at_ a b li:Nat) (H:qf) (ha:H[a]?=some ⟨0,1,[[.sl li 0 0 l.length l.length]]⟩) (hb:H[b]?=some ⟨0,1,[[.pl (l.map qv)]]⟩) (hli:H[li]?=some ⟨0,1,q3n l i⟩) (hat:at_<i) (hil:i≤l.length):AC Tryz.prog 226 [.int .i64 (at_:Int),.pt a 0 0 0,.pt b 0 0 0] H (Ret (.bool (qmt l at_)) H):=by
 have hrow:(q3n l i)[at_]?=some [.bool (q5p l at_)]:=by rw [qd8 (by omega),decide_eq_true hat,Bool.true_and]
 obtain ⟨x,hx,_⟩:=qo (l:=l) (k:=at_) (by omega)
 have hr:=ql qv hx
 refine AC.body (N:=25) [.tmp 4] Tryz.func226 rfl rfl rfl (Nat.le_of_ble_eq_true rfl) fun B hB=>?_
 refine Z1q ?_
 rw [qmt,q1z hx]
 clear hx
 refine Z1 ?_
 refine qn 4 (.bool (q5p l at_||(q5j x.state&&decide (x.state≠3)))) ?_ ?_
 ·refine ao1 (by decide) (qh (v:=.sl li 0 0 l.length l.length) rfl (lkF ha) rfl rfl rfl) ?_
  refine Z8 ?_
  refine ao1 (by decide) (qw rfl (lkF hli) rfl rfl rfl (by omega)) ?_
  refine ao1 (by decide) (qh (v:=.bool _) rfl (lkF hli) rfl (qca hrow) rfl) ?_
  refine Zh ?_
  refine qb rfl rfl (fun hg4=>?_) (fun hg4=>?_)
  ·refine Z48 ?_
   refine Z2v ?_
   refine Zb8 ?_
   refine Zb7 ?_
   refine Z2t ?_
   refine Zn ?_
   exact Zl8
  ·refine Zl9 ?_
   refine Zj ?_
   refine Zdn ?_
   refine Zk9 ?_
   refine Zfe ?_
   refine q5r rfl rfl (by decide) (V2.call (qoo _ _) rfl) ?_
   refine Z32 ?_
   refine qb rfl rfl (fun hg11=>?_) (fun hg11=>?_)
   ·refine Zl9 ?_
    refine Zj ?_
    refine Zdn ?_
    refine Zk9 ?_
    refine Zfe ?_
    refine Zla ?_
    refine Zbb ?_
    refine Z30 ?_
    exact qe (Out.mk (by (refine congrArg AV.bool ?_;(clear hB hrow hr;grind))) Yb)
   ·refine Zdo ?_
    refine Zbd ?_
    refine Z30 ?_
    exact Zl8
 exact Z21
theorem qll (l:List Job) (i at_ a b li c:Nat) (H:qf) (ha:H[a]?=some ⟨0,1,[[.sl li 0 0 l.length l.length]]⟩) (hb:H[b]?=some ⟨0,1,[[.pl (l.map qv)]]⟩) (hli:H[li]?=some ⟨0,1,q3n l i⟩) (hcc:H[c]?=some ⟨0,1,[[.fn (.func 226) [] [.pt a 0 0 0,.pt b 0 0 0]]]⟩) (hat:at_<i) (hil:i≤l.length):AC Tryz.prog 228 [.int .i64 (at_:Int),.pt c 0 0 0] H (Ret (.bool (!qmt l at_)) H):=by
 refine AC.body (N:=8) [.tmp 3] Tryz.func228 rfl rfl rfl (Nat.le_of_ble_eq_true rfl) fun B hB=>?_
 refine Zlb ?_
 refine ao1 (by decide) (qh (v:=.fn (.func 226) [] [.pt a 0 0 0,.pt b 0 0 0]) rfl (lkF hcc) rfl rfl rfl) ?_
 refine Z8 ?_
 refine ao2 Y1o (V2.callv (qld l i at_ a b li _ (lkF ha) (lkF hb) (lkF hli) hat hil) rfl rfl) ?_
 refine Z19 ?_
 refine Zbi ?_
 exact Z21
set_option maxHeartbeats 0 in
theorem qq4 (l:List Job) (H:qf) (hw:JW l):AC Tryz.prog 198 [.pl (l.map qv)] H (Ret (.pl ((q43 l).map eI)) H):=by
 have hw1:=hw.1
 have hml:(l.map qv).length=l.length:=by simp
 refine AC.body (N:=42) [.tmp 2] Tryz.func198 rfl rfl rfl (Nat.le_of_ble_eq_true rfl) fun B hB=>?_
 refine Z2 ?_
 refine Zlc ?_
 refine Z3d ?_
 refine qe ?_
 refine Z2h ?_
 refine Z2 ?_
 refine Z3u ?_
 refine Zh8 ?_
 refine Z39 ?_
 refine qa rfl (fun hc=>?_) (fun hc=>?_)
 ·have hno:q2v l=false:=by simpa only [Bool.not_eq_true'] using hc
  rw [show q43 l=[] by rw [q43,hno];rfl]
  refine Z3n ?_
  exact Z92
 have hyes:q2v l=true:=by simpa only [Bool.not_eq_false'] using hc
 have hs:=q3f hyes
 clear hc
 rw [qen l hyes]
 refine Z2 ?_
 refine Z3u ?_
 refine Z3x ?_
 refine ao2 Y1o (q3z (n:=l.length) (c:=l.length) (bytes:=1) rfl (by decide) (congrArg (fun k:Nat=>AV.int .i64 (k:Int)) hml) (congrArg (fun k:Nat=>AV.int .i64 (k:Int)) hml) (Nat.le_refl _) (by omega) (by omega) rfl) ?_
 refine Zld ?_
 refine ao2 Y21 (q1i (sz:=1) (v:=.sl _ _ _ _ _) (r':=[_]) rfl rfl rfl rfl rfl rfl rfl rfl (Nat.le_of_ble_eq_true rfl) rfl) ?_
 refine Zb2 ?_
 refine Z3m ?_
 refine q1v (k:=3) 4 1 rfl (by decide) rfl ?_
 refine q16 ?_
 refine Z3u ?_
 refine Zaz ?_
 refine Z8p ?_
 refine Z1d ?_
 refine qm (G:=Nat) (fun i=>i≤l.length) (fun i=>[(1,.pt (Lid H.length 0) 0 0 0),(3,.pt (Lid H.length 2) 0 0 0),(4,.sl (Lid H.length 3) (q40 l i).length 0 (q40 l i).length (q40 l i).length),(14,.pl (l.map qv)),(15,.int .i64 (l.length:Int)),(16,.int .i64 (i:Int))]) (fun i=>H++[⟨0,1,[[.pl (l.map qv)]]⟩,⟨0,1,q3n l i⟩,⟨0,1,[[.sl (Lid H.length 1) 0 0 l.length l.length]]⟩,⟨(q40 l i).length,1,(q40 l i).map eI⟩]) (fun i=>l.length-i) 0 (Nat.zero_le _) Y8 (.inl (by rw [qiu];rfl)) ?_
 intro i hi
 refine Z43 ?_
 refine qa rfl (fun hc=>?_) (fun hc=>?_)
 ·have hlt:i<l.length:=by simpa using hc
  obtain ⟨j,hj,hjl⟩:=qo hlt
  have hr:=ql qv hj
  have hjn:=hw.2 j hjl
  have hla:=qtf hyes hj
  have hst:=qjz hj
  have hle:=qhm l i
  have hrow:(q3n l i)[0+i]?=some [.bool (decide (i<i)&&q5p l i)]:=by rw [Nat.zero_add];exact qd8 hlt
  have hbf:=fun n hn=>(q8p hyes hj (n:=n) hn).1
  clear hc
  refine Z9e ?_
  refine Z5d ?_
  refine Z3 ?_
  refine Z5q ?_
  refine Zb2 ?_
  refine Z2 ?_
  refine ao1 (by decide) (q7a (vs:=[]) (us:=[_,_]) rfl rfl) ?_
  refine Zld ?_
  refine ao2 Y21 (q1i (sz:=1) (v:=.fn _ _ _) (r':=[_]) rfl rfl rfl rfl rfl rfl rfl rfl (Nat.le_of_ble_eq_true rfl) rfl) ?_
  refine Zb2 ?_
  refine Z1 ?_
  refine qn 31 (.bool (q5p l i)) ?_ ?_
  ·refine Z2m ?_
   refine Zi ?_
   refine qb rfl rfl (fun hg3=>?_) (fun hg3=>?_)
   ·refine Z6y ?_
    refine Z4z ?_
    refine Zle ?_
    refine q5r rfl rfl (by decide) (V2.call (qfr 228 [.pt (Lid H.length 5) 0 0 0] (fun a=>!qmt l a) l j _ (fun n hn L'=>qll l i (q1e l n) (Lid H.length 2) (Lid H.length 0) (Lid H.length 1) (Lid H.length 5) _ (lkF (lk rfl rfl)) (lkF (lk rfl rfl)) (lkF (lk rfl rfl)) (lkF (lk rfl rfl)) (hbf n hn) hi) hw1 hs hjn) rfl) ?_
    refine Z1w ?_
    refine Zm ?_
    exact qe (Out.mk (by (refine congrArg AV.bool ?_;(rw [hla];clear hB hbf hst hr hrow;(simp_all;done)))) Yb)
   ·refine Z4j ?_
    exact qe (Out.mk (by (refine congrArg AV.bool ?_;(rw [hla];clear hB hbf hst hr hrow;(simp_all;omega)))) Yb)
  refine Z1 ?_
  refine qa rfl (fun hc=>?_) (fun hc=>?_)
  ·rw [if_pos hc] at hst
   have q5q:=qk4 hc
   refine Z2 ?_
   refine ao1 (by decide) (qh (v:=.sl (Lid H.length 1) 0 0 l.length l.length) rfl (lk rfl rfl) rfl rfl rfl) ?_
   refine Zb4 ?_
   refine Zjh ?_
   refine qe ?_
   refine Zhy ?_
   rw [Nat.zero_add,q5q]
   refine Z8t ?_
   refine Z2m ?_
   refine Z8v ?_
   refine Z8z ?_
   rw [show ((q40 l i).map eI).take (q40 l i).length=(q40 l i).map eI from List.take_of_length_le (by simp)]
   refine Z4f ?_
   refine ⟨i+1,by omega,by omega,by rw [hst,List.length_append];exact Y8,?_⟩
   rw [hst,List.length_append]
   refine Fit.loc hB Y1e Y1 ?_
   intro o ho r hr
   simp only [List.mem_cons,List.not_mem_nil,or_false] at ho
   rcases ho with rfl | rfl | rfl | rfl
   ·simp only [List.mem_singleton] at hr;subst hr;rfl
   ·exact qd1 _ _ _ r hr
   ·simp only [List.mem_singleton] at hr;subst hr;simp [AV.bels,AV.bel,Lid]
   ·exact q3a _ _ r hr
  ·rw [if_neg Y1u] at hst
   refine Z4f ?_
   refine ⟨i+1,by omega,by omega,by rw [hst];exact Y8,?_⟩
   rw [hst,qif hc]
   refine Fit.loc hB rfl Y1 ?_
   intro o ho r hr
   simp only [List.mem_cons,List.not_mem_nil,or_false] at ho
   rcases ho with rfl | rfl | rfl | rfl
   ·simp only [List.mem_singleton] at hr;subst hr;rfl
   ·exact qd1 _ _ _ r hr
   ·simp only [List.mem_singleton] at hr;subst hr;simp [AV.bels,AV.bel,Lid]
   ·exact q3a _ _ r hr
 ·have:i=l.length:=by simp at hc;omega
  subst this
  refine Z91 ?_
  refine qr (ys:=(q40 l l.length).map eI) 2 rfl rfl rfl rfl Yn (by simp) (q3a 0 _) ?_
  exact Z92
end Go.Av
