/- Functions of the program as plain Lean, and what they come to. Conditions: none. -/
import Derived.Test.YtmhkjafcfpgikaaGreatEwD
import Derived.Test.YtmhkjafcfpgikaaGreatProg
import Derived.KernelRfl
import Derived.Test.YtmhkjafcfpgikaaGreatPureU
open Go Go.Ew
namespace Go.Proofs.YtmhkjafcfpgikaaGreat.T
set_option linter.unusedVariables false
set_option maxRecDepth 100000
noncomputable def tblP:FuncId→Option Func
 | 61=>some Tryz.f61
 | 94=>some Tryz.f94
 | 95=>some Tryz.f95
 | 96=>some Tryz.f96
 | 97=>some Tryz.f97
 | 165=>some Tryz.f165
 | 166=>some Tryz.f166
 | 167=>some Tryz.f167
 | 168=>some Tryz.f168
 | 169=>some Tryz.f169
 | 170=>some Tryz.f170
 | 171=>some Tryz.f171
 | 172=>some Tryz.f172
 | 173=>some Tryz.f173
 | _=>none
theorem tblP_ok:TblOK Tryz.prog tblP:=by
 intro g fn h
 unfold tblP at h
 split at h
 ·simp only [Option.some.injEq] at h;subst h;exact ⟨Tryz.func61,by kernel_rfl⟩
 ·simp only [Option.some.injEq] at h;subst h;exact ⟨Tryz.func94,by kernel_rfl⟩
 ·simp only [Option.some.injEq] at h;subst h;exact ⟨Tryz.func95,by kernel_rfl⟩
 ·simp only [Option.some.injEq] at h;subst h;exact ⟨Tryz.func96,by kernel_rfl⟩
 ·simp only [Option.some.injEq] at h;subst h;exact ⟨Tryz.func97,by kernel_rfl⟩
 ·simp only [Option.some.injEq] at h;subst h;exact ⟨Tryz.func165,by kernel_rfl⟩
 ·simp only [Option.some.injEq] at h;subst h;exact ⟨Tryz.func166,by kernel_rfl⟩
 ·simp only [Option.some.injEq] at h;subst h;exact ⟨Tryz.func167,by kernel_rfl⟩
 ·simp only [Option.some.injEq] at h;subst h;exact ⟨Tryz.func168,by kernel_rfl⟩
 ·simp only [Option.some.injEq] at h;subst h;exact ⟨Tryz.func169,by kernel_rfl⟩
 ·simp only [Option.some.injEq] at h;subst h;exact ⟨Tryz.func170,by kernel_rfl⟩
 ·simp only [Option.some.injEq] at h;subst h;exact ⟨Tryz.func171,by kernel_rfl⟩
 ·simp only [Option.some.injEq] at h;subst h;exact ⟨Tryz.func172,by kernel_rfl⟩
 ·simp only [Option.some.injEq] at h;subst h;exact ⟨Tryz.func173,by kernel_rfl⟩
 ·simp at h

noncomputable def kd (K:Int) (x:Int):Option (Int×Int×Int×Int×Int):=(opcode_Decode.F (x,())).bind fun y=>if y.1.1=K then some y.1.2 else none
noncomputable def kc (K:Int) (x:Int):Option (Int×Int×Int×Int×Int):=(opcode_DecodeCB.F (x,())).bind fun y=>if y.1.1=K then some y.1.2 else none
theorem kd_ok (K:Int) (x:SS [.k (.i .u8)]) (z:Int×Int×Int×Int×Int) (h:kd K x.1=some z):∃ y,opcode_Decode.F x=some y∧resOf [.agg ⟨.i .i64,[.i .i64, .i .i64, .i .i64, .i .i64, .i .i64]⟩] y = .one (.agg [.v (.int .i64 K), .v (.int .i64 z.1), .v (.int .i64 z.2.1), .v (.int .i64 z.2.2.1), .v (.int .i64 z.2.2.2.1), .v (.int .i64 z.2.2.2.2)]):=by
 obtain ⟨y,hy,h2⟩:=Option.bind_eq_some_iff.1 h
 split at h2
 ·rename_i e
  simp only [Option.some.injEq] at h2
  subst h2;subst e
  exact ⟨y,hy,rfl⟩
 ·simp at h2
theorem kc_ok (K:Int) (x:SS [.k (.i .u8)]) (z:Int×Int×Int×Int×Int) (h:kc K x.1=some z):∃ y,opcode_DecodeCB.F x=some y∧resOf [.agg ⟨.i .i64,[.i .i64, .i .i64, .i .i64, .i .i64, .i .i64]⟩] y = .one (.agg [.v (.int .i64 K), .v (.int .i64 z.1), .v (.int .i64 z.2.1), .v (.int .i64 z.2.2.1), .v (.int .i64 z.2.2.2.1), .v (.int .i64 z.2.2.2.2)]):=by
 obtain ⟨y,hy,h2⟩:=Option.bind_eq_some_iff.1 h
 split at h2
 ·rename_i e
  simp only [Option.some.injEq] at h2
  subst h2;subst e
  exact ⟨y,hy,rfl⟩
 ·simp at h2
noncomputable abbrev planQ (K:Int):List (Kn Tryz.prog):=[knEnc (P:=Tryz.prog) 102 [.k (.i .u8)] [.agg ⟨.i .i64,[.i .i64, .i .i64, .i .i64, .i .i64, .i .i64]⟩] opcode_Decode.F opcode_Decode.ok (fun x=>kd K x.1) (fun z:Int×Int×Int×Int×Int=> .one (.agg [.v (.int .i64 K), .v (.int .i64 z.1), .v (.int .i64 z.2.1), .v (.int .i64 z.2.2.1), .v (.int .i64 z.2.2.2.1), .v (.int .i64 z.2.2.2.2)])) (kd_ok K) (by rfl) (by rfl) (by rfl),knEnc (P:=Tryz.prog) 101 [.k (.i .u8)] [.agg ⟨.i .i64,[.i .i64, .i .i64, .i .i64, .i .i64, .i .i64]⟩] opcode_DecodeCB.F opcode_DecodeCB.ok (fun x=>kc K x.1) (fun z:Int×Int×Int×Int×Int=> .one (.agg [.v (.int .i64 K), .v (.int .i64 z.1), .v (.int .i64 z.2.1), .v (.int .i64 z.2.2.1), .v (.int .i64 z.2.2.2.1), .v (.int .i64 z.2.2.2.2)])) (kc_ok K) (by rfl) (by rfl) (by rfl)]
abbrev PlanT (f:Int×Bool×Bool×Unit→Option (List (Int×Int×Int)×Unit)):Prop:=PureOK Tryz.prog 61 [.k (.i .u8), .k .b, .k .b] [.im ⟨.i .i64,[.i .i64, .i .i64]⟩] f
noncomputable def plan0 (x:Int×Bool×Bool×Unit):Option (List (Int×Int×Int)×Unit):=
 if x.2.1=true then Option.bind (kc (0:Int) x.1) fun y0=>if (x.2.2.1==false)=true then some ([],()) else some ([],()) else Option.bind (kd (0:Int) x.1) fun y0=>if (x.2.2.1==false)=true then some ([],()) else some ([],())
theorem plan0_ok:PlanT plan0:=fn_gen tblP_ok (ks:=planQ 0) (ls:=[]) (n:=40) (d:=8) (by rfl) (fun x=>by kernel_rfl)
noncomputable def plan1 (x:Int×Bool×Bool×Unit):Option (List (Int×Int×Int)×Unit):=
 if x.2.1=true then Option.bind (kc (1:Int) x.1) fun y0=>some (List.take (1:Nat) (List.drop (0:Nat) [(1,1,1)]),()) else Option.bind (kd (1:Int) x.1) fun y0=>some (List.take (1:Nat) (List.drop (0:Nat) [(1,1,1)]),())
theorem plan1_ok:PlanT plan1:=fn_gen tblP_ok (ks:=planQ 1) (ls:=[]) (n:=40) (d:=8) (by rfl) (fun x=>by kernel_rfl)
noncomputable def plan2 (x:Int×Bool×Bool×Unit):Option (List (Int×Int×Int)×Unit):=
 if x.2.1=true then Option.bind (kc (2:Int) x.1) fun y0=>if (x.2.2.1==false)=true then some ([],()) else some ([],()) else Option.bind (kd (2:Int) x.1) fun y0=>if (x.2.2.1==false)=true then some ([],()) else some ([],())
theorem plan2_ok:PlanT plan2:=fn_gen tblP_ok (ks:=planQ 2) (ls:=[]) (n:=40) (d:=8) (by rfl) (fun x=>by kernel_rfl)
noncomputable def plan3 (x:Int×Bool×Bool×Unit):Option (List (Int×Int×Int)×Unit):=
 if x.2.1=true then Option.bind (kc (3:Int) x.1) fun y0=>if (x.2.2.1==false)=true then some ([],()) else some ([],()) else Option.bind (kd (3:Int) x.1) fun y0=>if (x.2.2.1==false)=true then some ([],()) else some ([],())
theorem plan3_ok:PlanT plan3:=fn_gen tblP_ok (ks:=planQ 3) (ls:=[]) (n:=40) (d:=8) (by rfl) (fun x=>by kernel_rfl)
noncomputable def plan4 (x:Int×Bool×Bool×Unit):Option (List (Int×Int×Int)×Unit):=
 if x.2.1=true then Option.bind (kc (4:Int) x.1) fun y0=>if (x.2.2.1==false)=true then some ([],()) else some ([],()) else Option.bind (kd (4:Int) x.1) fun y0=>if (x.2.2.1==false)=true then some ([],()) else some ([],())
theorem plan4_ok:PlanT plan4:=fn_gen tblP_ok (ks:=planQ 4) (ls:=[]) (n:=40) (d:=8) (by rfl) (fun x=>by kernel_rfl)
noncomputable def plan5 (x:Int×Bool×Bool×Unit):Option (List (Int×Int×Int)×Unit):=
 if x.2.1=true then Option.bind (kc (5:Int) x.1) fun y0=>if (x.2.2.1==false)=true then some ([],()) else some ([],()) else Option.bind (kd (5:Int) x.1) fun y0=>if (x.2.2.1==false)=true then some ([],()) else some ([],())
theorem plan5_ok:PlanT plan5:=fn_gen tblP_ok (ks:=planQ 5) (ls:=[]) (n:=40) (d:=8) (by rfl) (fun x=>by kernel_rfl)
noncomputable def plan6 (x:Int×Bool×Bool×Unit):Option (List (Int×Int×Int)×Unit):=
 if x.2.1=true then Option.bind (kc (6:Int) x.1) fun y0=>if (x.2.2.1==false)=true then some ([],()) else some ([],()) else Option.bind (kd (6:Int) x.1) fun y0=>if (x.2.2.1==false)=true then some ([],()) else some ([],())
theorem plan6_ok:PlanT plan6:=fn_gen tblP_ok (ks:=planQ 6) (ls:=[]) (n:=40) (d:=8) (by rfl) (fun x=>by kernel_rfl)
noncomputable def plan7 (x:Int×Bool×Bool×Unit):Option (List (Int×Int×Int)×Unit):=
 if x.2.1=true then Option.bind (kc (7:Int) x.1) fun y0=>if ((6:Int)==y0.1)=true then some (List.take (1:Nat) (List.drop (0:Nat) [(2,2,4)]),()) else if ((6:Int)==y0.2.1)=true then some (List.take (1:Nat) (List.drop (0:Nat) [(1,2,1)]),()) else if (x.2.2.1==false)=true then some ([],()) else some ([],()) else Option.bind (kd (7:Int) x.1) fun y0=>if ((6:Int)==y0.1)=true then some (List.take (1:Nat) (List.drop (0:Nat) [(2,2,4)]),()) else if ((6:Int)==y0.2.1)=true then some (List.take (1:Nat) (List.drop (0:Nat) [(1,2,1)]),()) else if (x.2.2.1==false)=true then some ([],()) else some ([],())
theorem plan7_ok:PlanT plan7:=fn_gen tblP_ok (ks:=planQ 7) (ls:=[]) (n:=40) (d:=8) (by rfl) (fun x=>by kernel_rfl)
noncomputable def plan8 (x:Int×Bool×Bool×Unit):Option (List (Int×Int×Int)×Unit):=
 if x.2.1=true then Option.bind (kc (8:Int) x.1) fun y0=>if (y0.1==6)=true then some (List.take (2:Nat) (List.drop (0:Nat) [(1,1,1),(2,2,1)]),()) else some (List.take (1:Nat) (List.drop (0:Nat) [(1,1,1)]),()) else Option.bind (kd (8:Int) x.1) fun y0=>if (y0.1==6)=true then some (List.take (2:Nat) (List.drop (0:Nat) [(1,1,1),(2,2,1)]),()) else some (List.take (1:Nat) (List.drop (0:Nat) [(1,1,1)]),())
theorem plan8_ok:PlanT plan8:=fn_gen tblP_ok (ks:=planQ 8) (ls:=[]) (n:=40) (d:=8) (by rfl) (fun x=>by kernel_rfl)
noncomputable def plan9 (x:Int×Bool×Bool×Unit):Option (List (Int×Int×Int)×Unit):=
 if x.2.1=true then Option.bind (kc (9:Int) x.1) fun y0=>if (0:Int)≤bits BinOp.and IntKind.i64 y0.1 (3:Int)∧bits BinOp.and IntKind.i64 y0.1 (3:Int)<(4:Int) then some (List.take (1:Nat) (List.drop (0:Nat) [(1,List.getD [(3:Int),4,5,(6:Int)] (Int.toNat (bits BinOp.and IntKind.i64 y0.1 (3:Int))) (0:Int),1)]),()) else none else Option.bind (kd (9:Int) x.1) fun y0=>if (0:Int)≤bits BinOp.and IntKind.i64 y0.1 (3:Int)∧bits BinOp.and IntKind.i64 y0.1 (3:Int)<(4:Int) then some (List.take (1:Nat) (List.drop (0:Nat) [(1,List.getD [(3:Int),4,5,(6:Int)] (Int.toNat (bits BinOp.and IntKind.i64 y0.1 (3:Int))) (0:Int),1)]),()) else none
theorem plan9_ok:PlanT plan9:=fn_gen tblP_ok (ks:=planQ 9) (ls:=[]) (n:=40) (d:=8) (by rfl) (fun x=>by kernel_rfl)
noncomputable def plan10 (x:Int×Bool×Bool×Unit):Option (List (Int×Int×Int)×Unit):=
 if x.2.1=true then Option.bind (kc (10:Int) x.1) fun y0=>if (0:Int)≤bits BinOp.and IntKind.i64 y0.1 (3:Int)∧bits BinOp.and IntKind.i64 y0.1 (3:Int)<(4:Int) then some (List.take (1:Nat) (List.drop (0:Nat) [(2,List.getD [(3:Int),4,5,(6:Int)] (Int.toNat (bits BinOp.and IntKind.i64 y0.1 (3:Int))) (0:Int),3)]),()) else none else Option.bind (kd (10:Int) x.1) fun y0=>if (0:Int)≤bits BinOp.and IntKind.i64 y0.1 (3:Int)∧bits BinOp.and IntKind.i64 y0.1 (3:Int)<(4:Int) then some (List.take (1:Nat) (List.drop (0:Nat) [(2,List.getD [(3:Int),4,5,(6:Int)] (Int.toNat (bits BinOp.and IntKind.i64 y0.1 (3:Int))) (0:Int),3)]),()) else none
theorem plan10_ok:PlanT plan10:=fn_gen tblP_ok (ks:=planQ 10) (ls:=[]) (n:=40) (d:=8) (by rfl) (fun x=>by kernel_rfl)
noncomputable def plan11 (x:Int×Bool×Bool×Unit):Option (List (Int×Int×Int)×Unit):=
 if x.2.1=true then Option.bind (kc (11:Int) x.1) fun y0=>some (List.take (2:Nat) (List.drop (0:Nat) [(1,1,1),(1,7,1)]),()) else Option.bind (kd (11:Int) x.1) fun y0=>some (List.take (2:Nat) (List.drop (0:Nat) [(1,1,1),(1,7,1)]),())
theorem plan11_ok:PlanT plan11:=fn_gen tblP_ok (ks:=planQ 11) (ls:=[]) (n:=40) (d:=8) (by rfl) (fun x=>by kernel_rfl)
noncomputable def plan12 (x:Int×Bool×Bool×Unit):Option (List (Int×Int×Int)×Unit):=
 if x.2.1=true then Option.bind (kc (12:Int) x.1) fun y0=>some (List.take (2:Nat) (List.drop (0:Nat) [(1,1,1),(2,7,3)]),()) else Option.bind (kd (12:Int) x.1) fun y0=>some (List.take (2:Nat) (List.drop (0:Nat) [(1,1,1),(2,7,3)]),())
theorem plan12_ok:PlanT plan12:=fn_gen tblP_ok (ks:=planQ 12) (ls:=[]) (n:=40) (d:=8) (by rfl) (fun x=>by kernel_rfl)
noncomputable def plan13 (x:Int×Bool×Bool×Unit):Option (List (Int×Int×Int)×Unit):=
 if x.2.1=true then Option.bind (kc (13:Int) x.1) fun y0=>some (List.take (1:Nat) (List.drop (0:Nat) [(1,8,1)]),()) else Option.bind (kd (13:Int) x.1) fun y0=>some (List.take (1:Nat) (List.drop (0:Nat) [(1,8,1)]),())
theorem plan13_ok:PlanT plan13:=fn_gen tblP_ok (ks:=planQ 13) (ls:=[]) (n:=40) (d:=8) (by rfl) (fun x=>by kernel_rfl)
noncomputable def plan14 (x:Int×Bool×Bool×Unit):Option (List (Int×Int×Int)×Unit):=
 if x.2.1=true then Option.bind (kc (14:Int) x.1) fun y0=>some (List.take (1:Nat) (List.drop (0:Nat) [(2,8,3)]),()) else Option.bind (kd (14:Int) x.1) fun y0=>some (List.take (1:Nat) (List.drop (0:Nat) [(2,8,3)]),())
theorem plan14_ok:PlanT plan14:=fn_gen tblP_ok (ks:=planQ 14) (ls:=[]) (n:=40) (d:=8) (by rfl) (fun x=>by kernel_rfl)
noncomputable def plan15 (x:Int×Bool×Bool×Unit):Option (List (Int×Int×Int)×Unit):=
 if x.2.1=true then Option.bind (kc (15:Int) x.1) fun y0=>some (List.take (3:Nat) (List.drop (0:Nat) [(1,1,1),(1,1,2),(1,9,1)]),()) else Option.bind (kd (15:Int) x.1) fun y0=>some (List.take (3:Nat) (List.drop (0:Nat) [(1,1,1),(1,1,2),(1,9,1)]),())
theorem plan15_ok:PlanT plan15:=fn_gen tblP_ok (ks:=planQ 15) (ls:=[]) (n:=40) (d:=8) (by rfl) (fun x=>by kernel_rfl)
noncomputable def plan16 (x:Int×Bool×Bool×Unit):Option (List (Int×Int×Int)×Unit):=
 if x.2.1=true then Option.bind (kc (16:Int) x.1) fun y0=>some (List.take (3:Nat) (List.drop (0:Nat) [(1,1,1),(1,1,2),(2,9,3)]),()) else Option.bind (kd (16:Int) x.1) fun y0=>some (List.take (3:Nat) (List.drop (0:Nat) [(1,1,1),(1,1,2),(2,9,3)]),())
theorem plan16_ok:PlanT plan16:=fn_gen tblP_ok (ks:=planQ 16) (ls:=[]) (n:=40) (d:=8) (by rfl) (fun x=>by kernel_rfl)
noncomputable def plan17 (x:Int×Bool×Bool×Unit):Option (List (Int×Int×Int)×Unit):=
 if x.2.1=true then Option.bind (kc (17:Int) x.1) fun y0=>some (List.take (2:Nat) (List.drop (0:Nat) [(1,1,1),(1,1,2)]),()) else Option.bind (kd (17:Int) x.1) fun y0=>some (List.take (2:Nat) (List.drop (0:Nat) [(1,1,1),(1,1,2)]),())
theorem plan17_ok:PlanT plan17:=fn_gen tblP_ok (ks:=planQ 17) (ls:=[]) (n:=40) (d:=8) (by rfl) (fun x=>by kernel_rfl)
noncomputable def plan18 (x:Int×Bool×Bool×Unit):Option (List (Int×Int×Int)×Unit):=
 if x.2.1=true then Option.bind (kc (18:Int) x.1) fun y0=>some (List.take (4:Nat) (List.drop (0:Nat) [(1,1,1),(1,1,2),(2,9,5),(2,10,6)]),()) else Option.bind (kd (18:Int) x.1) fun y0=>some (List.take (4:Nat) (List.drop (0:Nat) [(1,1,1),(1,1,2),(2,9,5),(2,10,6)]),())
theorem plan18_ok:PlanT plan18:=fn_gen tblP_ok (ks:=planQ 18) (ls:=[]) (n:=40) (d:=8) (by rfl) (fun x=>by kernel_rfl)
noncomputable def plan19 (x:Int×Bool×Bool×Unit):Option (List (Int×Int×Int)×Unit):=
 if x.2.1=true then Option.bind (kc (19:Int) x.1) fun y0=>some (List.take (1:Nat) (List.drop (0:Nat) [(0,0,0)]),()) else Option.bind (kd (19:Int) x.1) fun y0=>some (List.take (1:Nat) (List.drop (0:Nat) [(0,0,0)]),())
theorem plan19_ok:PlanT plan19:=fn_gen tblP_ok (ks:=planQ 19) (ls:=[]) (n:=40) (d:=8) (by rfl) (fun x=>by kernel_rfl)
noncomputable def plan20 (x:Int×Bool×Bool×Unit):Option (List (Int×Int×Int)×Unit):=
 if x.2.1=true then Option.bind (kc (20:Int) x.1) fun y0=>some (List.take (2:Nat) (List.drop (0:Nat) [(1,1,1),(0,0,0)]),()) else Option.bind (kd (20:Int) x.1) fun y0=>some (List.take (2:Nat) (List.drop (0:Nat) [(1,1,1),(0,0,0)]),())
theorem plan20_ok:PlanT plan20:=fn_gen tblP_ok (ks:=planQ 20) (ls:=[]) (n:=40) (d:=8) (by rfl) (fun x=>by kernel_rfl)
noncomputable def plan21 (x:Int×Bool×Bool×Unit):Option (List (Int×Int×Int)×Unit):=
 if x.2.1=true then Option.bind (kc (21:Int) x.1) fun y0=>if (x.2.2.1==false)=true then some (List.take (3:Nat) (List.drop (0:Nat) [(0,0,0),(2,11,10),(2,11,11)]),()) else some (List.take (3:Nat) (List.drop (0:Nat) [(0,0,0),(2,11,10),(2,11,11)]),()) else Option.bind (kd (21:Int) x.1) fun y0=>if (x.2.2.1==false)=true then some (List.take (3:Nat) (List.drop (0:Nat) [(0,0,0),(2,11,10),(2,11,11)]),()) else some (List.take (3:Nat) (List.drop (0:Nat) [(0,0,0),(2,11,10),(2,11,11)]),())
theorem plan21_ok:PlanT plan21:=fn_gen tblP_ok (ks:=planQ 21) (ls:=[]) (n:=40) (d:=8) (by rfl) (fun x=>by kernel_rfl)
noncomputable def plan22 (x:Int×Bool×Bool×Unit):Option (List (Int×Int×Int)×Unit):=
 if x.2.1=true then Option.bind (kc (22:Int) x.1) fun y0=>if (x.2.2.1==false)=true then some (List.take (2:Nat) (List.drop (0:Nat) [(1,12,1),(1,12,2)]),()) else some (List.take (2:Nat) (List.drop (0:Nat) [(1,12,1),(1,12,2)]),()) else Option.bind (kd (22:Int) x.1) fun y0=>if (x.2.2.1==false)=true then some (List.take (2:Nat) (List.drop (0:Nat) [(1,12,1),(1,12,2)]),()) else some (List.take (2:Nat) (List.drop (0:Nat) [(1,12,1),(1,12,2)]),())
theorem plan22_ok:PlanT plan22:=fn_gen tblP_ok (ks:=planQ 22) (ls:=[]) (n:=40) (d:=8) (by rfl) (fun x=>by kernel_rfl)
noncomputable def plan23 (x:Int×Bool×Bool×Unit):Option (List (Int×Int×Int)×Unit):=
 if x.2.1=true then Option.bind (kc (23:Int) x.1) fun y0=>if (y0.2.1==6)=true then some (List.take (1:Nat) (List.drop (0:Nat) [(1,2,1)]),()) else if (x.2.2.1==false)=true then some ([],()) else some ([],()) else Option.bind (kd (23:Int) x.1) fun y0=>if (y0.2.1==6)=true then some (List.take (1:Nat) (List.drop (0:Nat) [(1,2,1)]),()) else if (x.2.2.1==false)=true then some ([],()) else some ([],())
theorem plan23_ok:PlanT plan23:=fn_gen tblP_ok (ks:=planQ 23) (ls:=[]) (n:=40) (d:=8) (by rfl) (fun x=>by kernel_rfl)
noncomputable def plan24 (x:Int×Bool×Bool×Unit):Option (List (Int×Int×Int)×Unit):=
 if x.2.1=true then Option.bind (kc (24:Int) x.1) fun y0=>some (List.take (1:Nat) (List.drop (0:Nat) [(1,1,1)]),()) else Option.bind (kd (24:Int) x.1) fun y0=>some (List.take (1:Nat) (List.drop (0:Nat) [(1,1,1)]),())
theorem plan24_ok:PlanT plan24:=fn_gen tblP_ok (ks:=planQ 24) (ls:=[]) (n:=40) (d:=8) (by rfl) (fun x=>by kernel_rfl)
noncomputable def plan25 (x:Int×Bool×Bool×Unit):Option (List (Int×Int×Int)×Unit):=
 if x.2.1=true then Option.bind (kc (25:Int) x.1) fun y0=>if (y0.1==6)=true then some (List.take (2:Nat) (List.drop (0:Nat) [(1,2,1),(2,2,9)]),()) else if (x.2.2.1==false)=true then some ([],()) else some ([],()) else Option.bind (kd (25:Int) x.1) fun y0=>if (y0.1==6)=true then some (List.take (2:Nat) (List.drop (0:Nat) [(1,2,1),(2,2,9)]),()) else if (x.2.2.1==false)=true then some ([],()) else some ([],())
theorem plan25_ok:PlanT plan25:=fn_gen tblP_ok (ks:=planQ 25) (ls:=[]) (n:=40) (d:=8) (by rfl) (fun x=>by kernel_rfl)
noncomputable def plan26 (x:Int×Bool×Bool×Unit):Option (List (Int×Int×Int)×Unit):=
 if x.2.1=true then Option.bind (kc (26:Int) x.1) fun y0=>if (y0.1==6)=true then some (List.take (2:Nat) (List.drop (0:Nat) [(1,2,1),(2,2,9)]),()) else if (x.2.2.1==false)=true then some ([],()) else some ([],()) else Option.bind (kd (26:Int) x.1) fun y0=>if (y0.1==6)=true then some (List.take (2:Nat) (List.drop (0:Nat) [(1,2,1),(2,2,9)]),()) else if (x.2.2.1==false)=true then some ([],()) else some ([],())
theorem plan26_ok:PlanT plan26:=fn_gen tblP_ok (ks:=planQ 26) (ls:=[]) (n:=40) (d:=8) (by rfl) (fun x=>by kernel_rfl)
noncomputable def plan27 (x:Int×Bool×Bool×Unit):Option (List (Int×Int×Int)×Unit):=
 if x.2.1=true then Option.bind (kc (27:Int) x.1) fun y0=>some (List.take (1:Nat) (List.drop (0:Nat) [(0,0,0)]),()) else Option.bind (kd (27:Int) x.1) fun y0=>some (List.take (1:Nat) (List.drop (0:Nat) [(0,0,0)]),())
theorem plan27_ok:PlanT plan27:=fn_gen tblP_ok (ks:=planQ 27) (ls:=[]) (n:=40) (d:=8) (by rfl) (fun x=>by kernel_rfl)
noncomputable def plan28 (x:Int×Bool×Bool×Unit):Option (List (Int×Int×Int)×Unit):=
 if x.2.1=true then Option.bind (kc (28:Int) x.1) fun y0=>some (List.take (1:Nat) (List.drop (0:Nat) [(0,0,0)]),()) else Option.bind (kd (28:Int) x.1) fun y0=>some (List.take (1:Nat) (List.drop (0:Nat) [(0,0,0)]),())
theorem plan28_ok:PlanT plan28:=fn_gen tblP_ok (ks:=planQ 28) (ls:=[]) (n:=40) (d:=8) (by rfl) (fun x=>by kernel_rfl)
noncomputable def plan29 (x:Int×Bool×Bool×Unit):Option (List (Int×Int×Int)×Unit):=
 if x.2.1=true then Option.bind (kc (29:Int) x.1) fun y0=>some (List.take (1:Nat) (List.drop (0:Nat) [(0,0,0)]),()) else Option.bind (kd (29:Int) x.1) fun y0=>some (List.take (1:Nat) (List.drop (0:Nat) [(0,0,0)]),())
theorem plan29_ok:PlanT plan29:=fn_gen tblP_ok (ks:=planQ 29) (ls:=[]) (n:=40) (d:=8) (by rfl) (fun x=>by kernel_rfl)
noncomputable def plan30 (x:Int×Bool×Bool×Unit):Option (List (Int×Int×Int)×Unit):=
 if x.2.1=true then Option.bind (kc (30:Int) x.1) fun y0=>some (List.take (3:Nat) (List.drop (0:Nat) [(1,1,1),(0,0,0),(0,0,0)]),()) else Option.bind (kd (30:Int) x.1) fun y0=>some (List.take (3:Nat) (List.drop (0:Nat) [(1,1,1),(0,0,0),(0,0,0)]),())
theorem plan30_ok:PlanT plan30:=fn_gen tblP_ok (ks:=planQ 30) (ls:=[]) (n:=40) (d:=8) (by rfl) (fun x=>by kernel_rfl)
noncomputable def plan31 (x:Int×Bool×Bool×Unit):Option (List (Int×Int×Int)×Unit):=
 if x.2.1=true then Option.bind (kc (31:Int) x.1) fun y0=>if (x.2.2.1==false)=true then some ([],()) else some ([],()) else Option.bind (kd (31:Int) x.1) fun y0=>if (x.2.2.1==false)=true then some ([],()) else some ([],())
theorem plan31_ok:PlanT plan31:=fn_gen tblP_ok (ks:=planQ 31) (ls:=[]) (n:=40) (d:=8) (by rfl) (fun x=>by kernel_rfl)
noncomputable def plan32 (x:Int×Bool×Bool×Unit):Option (List (Int×Int×Int)×Unit):=
 if x.2.1=true then Option.bind (kc (32:Int) x.1) fun y0=>if (x.2.2.1==false)=true then some ([],()) else some ([],()) else Option.bind (kd (32:Int) x.1) fun y0=>if (x.2.2.1==false)=true then some ([],()) else some ([],())
theorem plan32_ok:PlanT plan32:=fn_gen tblP_ok (ks:=planQ 32) (ls:=[]) (n:=40) (d:=8) (by rfl) (fun x=>by kernel_rfl)
noncomputable def plan33 (x:Int×Bool×Bool×Unit):Option (List (Int×Int×Int)×Unit):=
 if x.2.1=true then Option.bind (kc (33:Int) x.1) fun y0=>if (x.2.2.1==false)=true then some ([],()) else some ([],()) else Option.bind (kd (33:Int) x.1) fun y0=>if (x.2.2.1==false)=true then some ([],()) else some ([],())
theorem plan33_ok:PlanT plan33:=fn_gen tblP_ok (ks:=planQ 33) (ls:=[]) (n:=40) (d:=8) (by rfl) (fun x=>by kernel_rfl)
noncomputable def plan34 (x:Int×Bool×Bool×Unit):Option (List (Int×Int×Int)×Unit):=
 if x.2.1=true then Option.bind (kc (34:Int) x.1) fun y0=>if (x.2.2.1==false)=true then some ([],()) else some ([],()) else Option.bind (kd (34:Int) x.1) fun y0=>if (x.2.2.1==false)=true then some ([],()) else some ([],())
theorem plan34_ok:PlanT plan34:=fn_gen tblP_ok (ks:=planQ 34) (ls:=[]) (n:=40) (d:=8) (by rfl) (fun x=>by kernel_rfl)
noncomputable def plan35 (x:Int×Bool×Bool×Unit):Option (List (Int×Int×Int)×Unit):=
 if x.2.1=true then Option.bind (kc (35:Int) x.1) fun y0=>if (x.2.2.1==false)=true then some ([],()) else some ([],()) else Option.bind (kd (35:Int) x.1) fun y0=>if (x.2.2.1==false)=true then some ([],()) else some ([],())
theorem plan35_ok:PlanT plan35:=fn_gen tblP_ok (ks:=planQ 35) (ls:=[]) (n:=40) (d:=8) (by rfl) (fun x=>by kernel_rfl)
noncomputable def plan36 (x:Int×Bool×Bool×Unit):Option (List (Int×Int×Int)×Unit):=
 if x.2.1=true then Option.bind (kc (36:Int) x.1) fun y0=>if (x.2.2.1==false)=true then if (y0.1==4)=true then some (List.take (2:Nat) (List.drop (0:Nat) [(1,1,1),(0,0,0)]),()) else some (List.take (1:Nat) (List.drop (0:Nat) [(1,1,1)]),()) else some (List.take (2:Nat) (List.drop (0:Nat) [(1,1,1),(0,0,0)]),()) else Option.bind (kd (36:Int) x.1) fun y0=>if (x.2.2.1==false)=true then if (y0.1==4)=true then some (List.take (2:Nat) (List.drop (0:Nat) [(1,1,1),(0,0,0)]),()) else some (List.take (1:Nat) (List.drop (0:Nat) [(1,1,1)]),()) else some (List.take (2:Nat) (List.drop (0:Nat) [(1,1,1),(0,0,0)]),())
theorem plan36_ok:PlanT plan36:=fn_gen tblP_ok (ks:=planQ 36) (ls:=[]) (n:=40) (d:=8) (by rfl) (fun x=>by kernel_rfl)
noncomputable def plan37 (x:Int×Bool×Bool×Unit):Option (List (Int×Int×Int)×Unit):=
 if x.2.1=true then Option.bind (kc (37:Int) x.1) fun y0=>if (x.2.2.1==false)=true then if (y0.1==4)=true then some (List.take (3:Nat) (List.drop (0:Nat) [(1,1,1),(1,1,2),(0,0,0)]),()) else some (List.take (2:Nat) (List.drop (0:Nat) [(1,1,1),(1,1,2)]),()) else some (List.take (3:Nat) (List.drop (0:Nat) [(1,1,1),(1,1,2),(0,0,0)]),()) else Option.bind (kd (37:Int) x.1) fun y0=>if (x.2.2.1==false)=true then if (y0.1==4)=true then some (List.take (3:Nat) (List.drop (0:Nat) [(1,1,1),(1,1,2),(0,0,0)]),()) else some (List.take (2:Nat) (List.drop (0:Nat) [(1,1,1),(1,1,2)]),()) else some (List.take (3:Nat) (List.drop (0:Nat) [(1,1,1),(1,1,2),(0,0,0)]),())
theorem plan37_ok:PlanT plan37:=fn_gen tblP_ok (ks:=planQ 37) (ls:=[]) (n:=40) (d:=8) (by rfl) (fun x=>by kernel_rfl)
noncomputable def plan38 (x:Int×Bool×Bool×Unit):Option (List (Int×Int×Int)×Unit):=
 if x.2.1=true then Option.bind (kc (38:Int) x.1) fun y0=>if (x.2.2.1==false)=true then some ([],()) else some ([],()) else Option.bind (kd (38:Int) x.1) fun y0=>if (x.2.2.1==false)=true then some ([],()) else some ([],())
theorem plan38_ok:PlanT plan38:=fn_gen tblP_ok (ks:=planQ 38) (ls:=[]) (n:=40) (d:=8) (by rfl) (fun x=>by kernel_rfl)
noncomputable def plan39 (x:Int×Bool×Bool×Unit):Option (List (Int×Int×Int)×Unit):=
 if x.2.1=true then Option.bind (kc (39:Int) x.1) fun y0=>if (x.2.2.1==false)=true then if (y0.1==4)=true then some (List.take (5:Nat) (List.drop (0:Nat) (List.take (2:Nat) (List.drop (0:Nat) [(1,1,1),(1,1,2)])++List.take (3:Nat) (List.drop (0:Nat) [(0,0,0),(2,11,8),(2,11,7)]))),()) else some (List.take (2:Nat) (List.drop (0:Nat) [(1,1,1),(1,1,2)]),()) else some (List.take (5:Nat) (List.drop (0:Nat) (List.take (2:Nat) (List.drop (0:Nat) [(1,1,1),(1,1,2)])++List.take (3:Nat) (List.drop (0:Nat) [(0,0,0),(2,11,8),(2,11,7)]))),()) else Option.bind (kd (39:Int) x.1) fun y0=>if (x.2.2.1==false)=true then if (y0.1==4)=true then some (List.take (5:Nat) (List.drop (0:Nat) (List.take (2:Nat) (List.drop (0:Nat) [(1,1,1),(1,1,2)])++List.take (3:Nat) (List.drop (0:Nat) [(0,0,0),(2,11,8),(2,11,7)]))),()) else some (List.take (2:Nat) (List.drop (0:Nat) [(1,1,1),(1,1,2)]),()) else some (List.take (5:Nat) (List.drop (0:Nat) (List.take (2:Nat) (List.drop (0:Nat) [(1,1,1),(1,1,2)])++List.take (3:Nat) (List.drop (0:Nat) [(0,0,0),(2,11,8),(2,11,7)]))),())
theorem plan39_ok:PlanT plan39:=fn_gen tblP_ok (ks:=planQ 39) (ls:=[]) (n:=40) (d:=8) (by rfl) (fun x=>by kernel_rfl)
noncomputable def plan40 (x:Int×Bool×Bool×Unit):Option (List (Int×Int×Int)×Unit):=
 if x.2.1=true then Option.bind (kc (40:Int) x.1) fun y0=>if (x.2.2.1==false)=true then if (y0.1==4)=true then some (List.take (3:Nat) (List.drop (0:Nat) (List.take (3:Nat) (List.drop (0:Nat) [(1,12,1),(1,12,2),(0,0,0)]))),()) else if (y0.1==4)=true then some (List.take (4:Nat) (List.drop (0:Nat) (List.take (1:Nat) (List.drop (0:Nat) [(0,0,0)])++List.take (3:Nat) (List.drop (0:Nat) [(1,12,1),(1,12,2),(0,0,0)]))),()) else some (List.take (1:Nat) (List.drop (0:Nat) [(0,0,0)]),()) else if (y0.1==4)=true then some (List.take (3:Nat) (List.drop (0:Nat) (List.take (3:Nat) (List.drop (0:Nat) [(1,12,1),(1,12,2),(0,0,0)]))),()) else some (List.take (4:Nat) (List.drop (0:Nat) (List.take (1:Nat) (List.drop (0:Nat) [(0,0,0)])++List.take (3:Nat) (List.drop (0:Nat) [(1,12,1),(1,12,2),(0,0,0)]))),()) else Option.bind (kd (40:Int) x.1) fun y0=>if (x.2.2.1==false)=true then if (y0.1==4)=true then some (List.take (3:Nat) (List.drop (0:Nat) (List.take (3:Nat) (List.drop (0:Nat) [(1,12,1),(1,12,2),(0,0,0)]))),()) else if (y0.1==4)=true then some (List.take (4:Nat) (List.drop (0:Nat) (List.take (1:Nat) (List.drop (0:Nat) [(0,0,0)])++List.take (3:Nat) (List.drop (0:Nat) [(1,12,1),(1,12,2),(0,0,0)]))),()) else some (List.take (1:Nat) (List.drop (0:Nat) [(0,0,0)]),()) else if (y0.1==4)=true then some (List.take (3:Nat) (List.drop (0:Nat) (List.take (3:Nat) (List.drop (0:Nat) [(1,12,1),(1,12,2),(0,0,0)]))),()) else some (List.take (4:Nat) (List.drop (0:Nat) (List.take (1:Nat) (List.drop (0:Nat) [(0,0,0)])++List.take (3:Nat) (List.drop (0:Nat) [(1,12,1),(1,12,2),(0,0,0)]))),())
theorem plan40_ok:PlanT plan40:=fn_gen tblP_ok (ks:=planQ 40) (ls:=[]) (n:=40) (d:=8) (by rfl) (fun x=>by kernel_rfl)
noncomputable def plan41 (x:Int×Bool×Bool×Unit):Option (List (Int×Int×Int)×Unit):=
 if x.2.1=true then Option.bind (kc (41:Int) x.1) fun y0=>if (x.2.2.1==false)=true then some (List.take (3:Nat) (List.drop (0:Nat) (List.take (3:Nat) (List.drop (0:Nat) [(1,12,1),(1,12,2),(0,0,0)]))),()) else some (List.take (3:Nat) (List.drop (0:Nat) (List.take (3:Nat) (List.drop (0:Nat) [(1,12,1),(1,12,2),(0,0,0)]))),()) else Option.bind (kd (41:Int) x.1) fun y0=>if (x.2.2.1==false)=true then some (List.take (3:Nat) (List.drop (0:Nat) (List.take (3:Nat) (List.drop (0:Nat) [(1,12,1),(1,12,2),(0,0,0)]))),()) else some (List.take (3:Nat) (List.drop (0:Nat) (List.take (3:Nat) (List.drop (0:Nat) [(1,12,1),(1,12,2),(0,0,0)]))),())
theorem plan41_ok:PlanT plan41:=fn_gen tblP_ok (ks:=planQ 41) (ls:=[]) (n:=40) (d:=8) (by rfl) (fun x=>by kernel_rfl)
noncomputable def plan42 (x:Int×Bool×Bool×Unit):Option (List (Int×Int×Int)×Unit):=
 if x.2.1=true then Option.bind (kc (42:Int) x.1) fun y0=>if (x.2.2.1==false)=true then some (List.take (3:Nat) (List.drop (0:Nat) (List.take (3:Nat) (List.drop (0:Nat) [(0,0,0),(2,11,8),(2,11,7)]))),()) else some (List.take (3:Nat) (List.drop (0:Nat) (List.take (3:Nat) (List.drop (0:Nat) [(0,0,0),(2,11,8),(2,11,7)]))),()) else Option.bind (kd (42:Int) x.1) fun y0=>if (x.2.2.1==false)=true then some (List.take (3:Nat) (List.drop (0:Nat) (List.take (3:Nat) (List.drop (0:Nat) [(0,0,0),(2,11,8),(2,11,7)]))),()) else some (List.take (3:Nat) (List.drop (0:Nat) (List.take (3:Nat) (List.drop (0:Nat) [(0,0,0),(2,11,8),(2,11,7)]))),())
theorem plan42_ok:PlanT plan42:=fn_gen tblP_ok (ks:=planQ 42) (ls:=[]) (n:=40) (d:=8) (by rfl) (fun x=>by kernel_rfl)
noncomputable def plan43 (x:Int×Bool×Bool×Unit):Option (List (Int×Int×Int)×Unit):=
 if x.2.1=true then Option.bind (kc (43:Int) x.1) fun y0=>if (y0.2.1==6)=true then some (List.take (2:Nat) (List.drop (0:Nat) [(1,2,1),(2,2,9)]),()) else if (x.2.2.1==false)=true then some ([],()) else some ([],()) else Option.bind (kd (43:Int) x.1) fun y0=>if (y0.2.1==6)=true then some (List.take (2:Nat) (List.drop (0:Nat) [(1,2,1),(2,2,9)]),()) else if (x.2.2.1==false)=true then some ([],()) else some ([],())
theorem plan43_ok:PlanT plan43:=fn_gen tblP_ok (ks:=planQ 43) (ls:=[]) (n:=40) (d:=8) (by rfl) (fun x=>by kernel_rfl)
noncomputable def plan44 (x:Int×Bool×Bool×Unit):Option (List (Int×Int×Int)×Unit):=
 if x.2.1=true then Option.bind (kc (44:Int) x.1) fun y0=>if (y0.2.1==6)=true then some (List.take (1:Nat) (List.drop (0:Nat) [(1,2,1)]),()) else if (x.2.2.1==false)=true then some ([],()) else some ([],()) else Option.bind (kd (44:Int) x.1) fun y0=>if (y0.2.1==6)=true then some (List.take (1:Nat) (List.drop (0:Nat) [(1,2,1)]),()) else if (x.2.2.1==false)=true then some ([],()) else some ([],())
theorem plan44_ok:PlanT plan44:=fn_gen tblP_ok (ks:=planQ 44) (ls:=[]) (n:=40) (d:=8) (by rfl) (fun x=>by kernel_rfl)
noncomputable def plan45 (x:Int×Bool×Bool×Unit):Option (List (Int×Int×Int)×Unit):=
 if x.2.1=true then Option.bind (kc (45:Int) x.1) fun y0=>if (y0.2.1==6)=true then some (List.take (2:Nat) (List.drop (0:Nat) [(1,2,1),(2,2,9)]),()) else if (x.2.2.1==false)=true then some ([],()) else some ([],()) else Option.bind (kd (45:Int) x.1) fun y0=>if (y0.2.1==6)=true then some (List.take (2:Nat) (List.drop (0:Nat) [(1,2,1),(2,2,9)]),()) else if (x.2.2.1==false)=true then some ([],()) else some ([],())
theorem plan45_ok:PlanT plan45:=fn_gen tblP_ok (ks:=planQ 45) (ls:=[]) (n:=40) (d:=8) (by rfl) (fun x=>by kernel_rfl)
noncomputable def plan46 (x:Int×Bool×Bool×Unit):Option (List (Int×Int×Int)×Unit):=
 if x.2.1=true then Option.bind (kc (46:Int) x.1) fun y0=>if (y0.2.1==6)=true then some (List.take (2:Nat) (List.drop (0:Nat) [(1,2,1),(2,2,9)]),()) else if (x.2.2.1==false)=true then some ([],()) else some ([],()) else Option.bind (kd (46:Int) x.1) fun y0=>if (y0.2.1==6)=true then some (List.take (2:Nat) (List.drop (0:Nat) [(1,2,1),(2,2,9)]),()) else if (x.2.2.1==false)=true then some ([],()) else some ([],())
theorem plan46_ok:PlanT plan46:=fn_gen tblP_ok (ks:=planQ 46) (ls:=[]) (n:=40) (d:=8) (by rfl) (fun x=>by kernel_rfl)
end Go.Proofs.YtmhkjafcfpgikaaGreat.T
