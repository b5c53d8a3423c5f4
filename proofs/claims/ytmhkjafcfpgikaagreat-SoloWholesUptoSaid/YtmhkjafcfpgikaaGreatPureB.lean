/- Functions of the program as plain Lean, and what they come to. Conditions: none. -/
import Derived.Test.YtmhkjafcfpgikaaGreatEwD
import Derived.Test.YtmhkjafcfpgikaaGreatPureA
open Go Go.Ew
namespace Go.Proofs.YtmhkjafcfpgikaaGreat.E
open Go.IntKind (wrap)
set_option linter.unusedVariables false
set_option linter.unusedSimpArgs false
set_option maxRecDepth 100000

structure rok (r:R10):Prop where
 a:byte r.1
 f:byte r.2.1
 b:byte r.2.2.1
 c:byte r.2.2.2.1
 d:byte r.2.2.2.2.1
 e:byte r.2.2.2.2.2.1
 h:byte r.2.2.2.2.2.2.1
 l:byte r.2.2.2.2.2.2.2.1
 sp:word r.2.2.2.2.2.2.2.2.1
 pc:word r.2.2.2.2.2.2.2.2.2
def getR (r:R10) (n:Nat):Int:=match n with
 | 0=>r.2.2.1
 | 1=>r.2.2.2.1
 | 2=>r.2.2.2.2.1
 | 3=>r.2.2.2.2.2.1
 | 4=>r.2.2.2.2.2.2.1
 | 5=>r.2.2.2.2.2.2.2.1
 | _=>r.1
def putR (r:R10) (n:Nat) (v:Int):R10:=match n with
 | 0=>(r.1,r.2.1,v,r.2.2.2)
 | 1=>(r.1,r.2.1,r.2.2.1,v,r.2.2.2.2)
 | 2=>(r.1,r.2.1,r.2.2.1,r.2.2.2.1,v,r.2.2.2.2.2)
 | 3=>(r.1,r.2.1,r.2.2.1,r.2.2.2.1,r.2.2.2.2.1,v,r.2.2.2.2.2.2)
 | 4=>(r.1,r.2.1,r.2.2.1,r.2.2.2.1,r.2.2.2.2.1,r.2.2.2.2.2.1,v,r.2.2.2.2.2.2.2)
 | 5=>(r.1,r.2.1,r.2.2.1,r.2.2.2.1,r.2.2.2.2.1,r.2.2.2.2.2.1,r.2.2.2.2.2.2.1,v,r.2.2.2.2.2.2.2.2)
 | _=>(v,r.2)
def Z10:R10:=(0,0,0,0,0,0,0,0,0,0)
theorem get_spec (r:R10) {n:Nat} (hn:n<8):regs_Get.F (r,(n:Int),())=some (if n=6 then 0 else getR r n,if n=6 then 7 else 0,()):=by
 have:n=0∨n=1∨n=2∨n=3∨n=4∨n=5∨n=6∨n=7:=by omega
 rcases this with rfl | rfl | rfl | rfl | rfl | rfl | rfl | rfl<;>rfl
theorem rget_spec (r:R10) {n:Nat} (hn:n<8):ref04_Get.F (r,(n:Int),())=some (if n=6 then 0 else getR r n,if n=6 then 7 else 0,()):=by
 have:n=0∨n=1∨n=2∨n=3∨n=4∨n=5∨n=6∨n=7:=by omega
 rcases this with rfl | rfl | rfl | rfl | rfl | rfl | rfl | rfl<;>rfl
theorem put_spec (r:R10) {n:Nat} (hn:n<8) (v:Int):regs_Put.F (r,(n:Int),v,())=some (if n=6 then Z10 else putR r n v,if n=6 then 7 else 0,()):=by
 have:n=0∨n=1∨n=2∨n=3∨n=4∨n=5∨n=6∨n=7:=by omega
 rcases this with rfl | rfl | rfl | rfl | rfl | rfl | rfl | rfl<;>rfl
theorem rputr_spec (r:R10) {n:Nat} (hn:n<8) (v:Int):ref04_Put.F (r,(n:Int),v,())=some (if n=6 then Z10 else putR r n v,if n=6 then 7 else 0,()):=by
 have:n=0∨n=1∨n=2∨n=3∨n=4∨n=5∨n=6∨n=7:=by omega
 rcases this with rfl | rfl | rfl | rfl | rfl | rfl | rfl | rfl<;>rfl
def pairR (r:R10) (n:Nat):Int:=match n with
 | 0=>256*r.2.2.1+r.2.2.2.1
 | 1=>256*r.2.2.2.2.1+r.2.2.2.2.2.1
 | 2=>256*r.2.2.2.2.2.2.1+r.2.2.2.2.2.2.2.1
 | 3=>r.2.2.2.2.2.2.2.2.1
 | _=>256*r.1+r.2.1
def putP (r:R10) (n:Nat) (w:Int):R10:=match n with
 | 0=>(r.1,r.2.1,w / 256,w%256,r.2.2.2.2)
 | 1=>(r.1,r.2.1,r.2.2.1,r.2.2.2.1,w / 256,w%256,r.2.2.2.2.2.2)
 | 2=>(r.1,r.2.1,r.2.2.1,r.2.2.2.1,r.2.2.2.2.1,r.2.2.2.2.2.1,w / 256,w%256,r.2.2.2.2.2.2.2.2)
 | 3=>(r.1,r.2.1,r.2.2.1,r.2.2.2.1,r.2.2.2.2.1,r.2.2.2.2.2.1,r.2.2.2.2.2.2.1,r.2.2.2.2.2.2.2.1,w,r.2.2.2.2.2.2.2.2.2)
 | _=>(w / 256,w%256 / 16*16,r.2.2)
theorem join16' {h l:Int} (hh:byte h) (hl:byte l):bits .or .u16 (wrap .u16 (wrap .u16 h*256)) (wrap .u16 l)=256*h+l:=by
 have a:=hh.1
 have b:=hh.2
 have c:=hl.1
 have d:=hl.2
 rw [w16 (n:=h) (by omega),w16 (n:=l) (by omega),show h*256=256*h by omega,w16 (by omega),join a (by omega) c (by omega)]
theorem pair_spec {r:R10} (hr:rok r) {n:Nat} (hn:n<5):regs_Pair.F (r,(n:Int),())=some (pairR r n,0,()):=by
 unfold regs_Pair.F regs_Pair.G pairR
 have:n=0∨n=1∨n=2∨n=3∨n=4:=by omega
 rcases this with rfl | rfl | rfl | rfl | rfl
 ·exact congrArg (fun x=>some (x,(0:Int),())) (join16' hr.b hr.c)
 ·exact congrArg (fun x=>some (x,(0:Int),())) (join16' hr.d hr.e)
 ·exact congrArg (fun x=>some (x,(0:Int),())) (join16' hr.h hr.l)
 ·rfl
 ·exact congrArg (fun x=>some (x,(0:Int),())) (join16' hr.a hr.f)
theorem rpair_spec {r:R10} (hr:rok r) {n:Nat} (hn:n<5):ref04_Pair.F (r,(n:Int),())=some (pairR r n,0,()):=by
 unfold ref04_Pair.F ref04_Pair.G pairR
 dsimp only
 rw [join_spec hr.b hr.c,join_spec hr.d hr.e,join_spec hr.h hr.l,join_spec hr.a hr.f]
 have:n=0∨n=1∨n=2∨n=3∨n=4:=by omega
 rcases this with rfl | rfl | rfl | rfl | rfl<;>rfl
theorem putp_spec (r:R10) {n:Nat} (hn:n<5) {w:Int} (hw:word w):regs_PutPair.F (r,(n:Int),w,())=some (putP r n w,0,()):=by
 have a:=hw.1
 have b:=hw.2
 have e1:wrap .u8 (Int.fdiv w 256)=w / 256:=by rw [fdivN (by omega),w8 (by omega)]
 have e2:wrap .u8 w=w%256:=m8 w
 have e3:wrap .u8 (Int.fdiv (bits .andNot .u16 w 15) 256)=w / 256:=by rw [not15 a (by omega),fdivN (by omega),w8 (by omega)];omega
 have e4:wrap .u8 (bits .andNot .u16 w 15)=w%256 / 16*16:=by rw [not15 a (by omega),m8];omega
 have:n=0∨n=1∨n=2∨n=3∨n=4:=by omega
 unfold regs_PutPair.F regs_PutPair.G
 dsimp only
 rw [e1,e2,e3,e4]
 rcases this with rfl | rfl | rfl | rfl | rfl<;>rfl
theorem rputp_spec (r:R10) {n:Nat} (hn:n<5) {w:Int} (hw:word w):ref04_PutPair.F (r,(n:Int),w,())=some (putP r n w,0,()):=by
 have a:=hw.1
 have b:=hw.2
 unfold ref04_PutPair.F ref04_PutPair.G
 dsimp only
 rw [split_spec hw]
 simp only [Option.bind_some]
 rw [tdivN (by omega),w8 (n:=w%256 / 16) (by omega),w8 (n:=w%256 / 16*16) (by omega)]
 have:n=0∨n=1∨n=2∨n=3∨n=4:=by omega
 rcases this with rfl | rfl | rfl | rfl | rfl<;>rfl
theorem flags_spec {r:R10} (hr:rok r):regs_Flags.F (r,())=some (ofS r.2.1,()):=by
 unfold regs_Flags.F regs_Flags.G
 dsimp only
 rw [of_spec hr.f];rfl
theorem rflags_spec {r:R10} (hr:rok r):ref04_Flags.F (r,())=some (ofS r.2.1,()):=by
 unfold ref04_Flags.F ref04_Flags.G
 dsimp only
 rw [rof_spec hr.f];rfl
def withF (r:R10) (f:FL):R10:=(r.1,flS f,r.2.2)
theorem with_spec (r:R10) (f:FL):regs_WithFlags.F (r,f,())=some (withF r f,()):=by
 unfold regs_WithFlags.F regs_WithFlags.G
 dsimp only
 rw [byte_spec];rfl
theorem rwith_spec (r:R10) (f:FL):ref04_WithFlags.F (r,f,())=some (withF r f,()):=by
 unfold ref04_WithFlags.F ref04_WithFlags.G
 dsimp only
 rw [rbyte_spec];rfl
def holdS (r:R10) (n:Int):Bool:=if n=0 then !bitB r.2.1 7 else if n=1 then bitB r.2.1 7 else if n=2 then !bitB r.2.1 4 else if n=3 then bitB r.2.1 4 else decide (n=4)
theorem holds_spec {r:R10} (hr:rok r) (n:Int):regs_Holds.F (r,n,())=some (holdS r n,()):=by
 unfold regs_Holds.F regs_Holds.G holdS
 dsimp only
 rw [flags_spec hr]
 simp only [Option.bind_some,ofS,beqD]
 by_cases h0:n=0
 ·subst h0;simp
 ·by_cases h1:n=1
  ·subst h1;simp
  ·by_cases h2:n=2
   ·subst h2;simp
   ·by_cases h3:n=3
    ·subst h3;simp
    ·simp [h0,h1,h2,h3]
theorem rholds_spec {r:R10} (hr:rok r) (n:Int):ref04_Holds.F (r,n,())=some (holdS r n,()):=by
 unfold ref04_Holds.F ref04_Holds.G holdS
 dsimp only
 rw [rflags_spec hr]
 simp only [Option.bind_some,ofS,beqD]
 by_cases h0:n=0
 ·subst h0;simp
 ·by_cases h1:n=1
  ·subst h1;simp
  ·by_cases h2:n=2
   ·subst h2;simp
   ·by_cases h3:n=3
    ·subst h3;simp
    ·by_cases h4:n=4<;>simp [h0,h1,h2,h3,h4]
theorem putR_ok {r:R10} (hr:rok r) (n:Nat) {v:Int} (hv:byte v):rok (putR r n v):=by
 unfold putR
 split<;>exact ⟨by first | exact hr.a | exact hv,hr.f,by first | exact hr.b | exact hv,by first | exact hr.c | exact hv,by first | exact hr.d | exact hv,by first | exact hr.e | exact hv,by first | exact hr.h | exact hv,by first | exact hr.l | exact hv,hr.sp,hr.pc⟩
theorem getR_ok {r:R10} (hr:rok r) (n:Nat):byte (getR r n):=by
 unfold getR
 split
 ·exact hr.b
 ·exact hr.c
 ·exact hr.d
 ·exact hr.e
 ·exact hr.h
 ·exact hr.l
 ·exact hr.a
theorem pairR_ok {r:R10} (hr:rok r) (n:Nat):word (pairR r n):=by
 have b1:=hr.b
 have b2:=hr.c
 have b3:=hr.d
 have b4:=hr.e
 have b5:=hr.h
 have b6:=hr.l
 have b7:=hr.a
 have b8:=hr.f
 have b9:=hr.sp
 unfold byte at *
 unfold word at *
 unfold pairR
 split<;>omega
theorem hi_byte {w:Int} (h:word w):byte (w / 256):=⟨by have:=h.1;omega,by have:=h.2;omega⟩
theorem lo_byte (w:Int):byte (w%256):=⟨by omega,by omega⟩
theorem putP_ok {r:R10} (hr:rok r) (n:Nat) {w:Int} (hw:word w):rok (putP r n w):=by
 have h1:=hi_byte hw
 have h2:=lo_byte w
 have h3:byte (w%256 / 16*16):=⟨by omega,by omega⟩
 unfold putP
 split
 ·exact ⟨hr.a,hr.f,h1,h2,hr.d,hr.e,hr.h,hr.l,hr.sp,hr.pc⟩
 ·exact ⟨hr.a,hr.f,hr.b,hr.c,h1,h2,hr.h,hr.l,hr.sp,hr.pc⟩
 ·exact ⟨hr.a,hr.f,hr.b,hr.c,hr.d,hr.e,h1,h2,hr.sp,hr.pc⟩
 ·exact ⟨hr.a,hr.f,hr.b,hr.c,hr.d,hr.e,hr.h,hr.l,hw,hr.pc⟩
 ·exact ⟨h1,h3,hr.b,hr.c,hr.d,hr.e,hr.h,hr.l,hr.sp,hr.pc⟩
theorem withF_ok {r:R10} (hr:rok r) (f:FL):rok (withF r f):=⟨hr.a,flS_byte f,hr.b,hr.c,hr.d,hr.e,hr.h,hr.l,hr.sp,hr.pc⟩
theorem vector_spec {n:Int} (h:byte n):irq_Vector.F (n,())=some (if n<5 then 64+8*n else 0,if n<5 then 0 else 1,()):=by
 have a:=h.1
 have b:=h.2
 unfold irq_Vector.F irq_Vector.G
 dsimp only
 have g:n≥0:=a
 rw [if_pos (by simp [g])]
 by_cases q:n<5
 ·rw [if_neg (by simp [q]),w16 (n:=n) (by omega),w16 (n:=8*n) (by omega),w16 (by omega),if_pos q,if_pos q]
 ·rw [if_pos (by simp [q]),if_neg q,if_neg q]
end Go.Proofs.YtmhkjafcfpgikaaGreat.E
