/- Functions of the program as plain Lean, and what they come to. Conditions: none. -/
import Derived.Test.YtmhkjafcfpgikaaGreatEwD
import Derived.Test.YtmhkjafcfpgikaaGreatPureH
import Derived.Test.YtmhkjafcfpgikaaGreatPureJ
open Go Go.Ew
namespace Go.Proofs.YtmhkjafcfpgikaaGreat.E
set_option linter.unusedVariables false
set_option linter.unusedSimpArgs false
set_option maxRecDepth 100000
theorem busy0 {s:St} (e:s.step=0):busyS s=false:=by
 unfold busyS
 by_cases w:waitS s=true
 ·rw [if_pos w]
 ·rw [if_neg w,if_pos e]
theorem want0 {s:St} (m:s.mode=0) (e:s.step=0) (p:Int):wantS s p=((begS s p).1,(begS s p).2, -1):=by
 unfold wantS
 rw [if_neg (by omega),if_pos (busy0 e)]
def begunS (r:R10):St:=⟨(r.1,bits .andNot .u8 r.2.1 15,r.2.2),false,false,false,0,0,false,0,0,0⟩
theorem andn_fin:∀ v:Fin 256,0≤bits .andNot .u8 (v.val:Int) 15∧bits .andNot .u8 (v.val:Int) 15≤255∧bits .andNot .u8 (v.val:Int) 15%16=0:=by decide +kernel
theorem andn_ok {v:Int} (h:byte v):byte (bits .andNot .u8 v 15)∧bits .andNot .u8 v 15%16=0:=by
 have a:=h.1
 have b:=h.2
 obtain ⟨m,rfl⟩:=Int.eq_ofNat_of_zero_le a
 have:=andn_fin ⟨m,by omega⟩
 exact ⟨⟨this.1,this.2.1⟩,this.2.2⟩
theorem begun_ok {r:R10} (h:rok r):sok (begunS r):=⟨⟨h.a,(andn_ok h.f).1,h.b,h.c,h.d,h.e,h.h,h.l,h.sp,h.pc⟩,byte0,byte0,byte0,byte0⟩
theorem beg_ok {s:St} (h:sok s) (p:Int):sok (begS s p).1:=by
 unfold begS
 split
 ·exact ⟨h.r,h.op,byte0,h.lo,h.hi⟩
 ·exact ⟨h.r,h.op,byte0,h.lo,h.hi⟩
theorem rok_of {r:R10} (h:wfS (.agg ⟨.i .u8,[.i .u8, .i .u8, .i .u8, .i .u8, .i .u8, .i .u8, .i .u8, .i .u16, .i .u16]⟩) r):rok r:=by
 obtain ⟨h1,h2,h3,h4,h5,h6,h7,h8,h9,h10⟩:=h
 exact ⟨wf_u8.1 h1,wf_u8.1 h2,wf_u8.1 h3,wf_u8.1 h4,wf_u8.1 h5,wf_u8.1 h6,wf_u8.1 h7,wf_u8.1 h8,wf_u16.1 h9,wf_u16.1 h10⟩
end Go.Proofs.YtmhkjafcfpgikaaGreat.E
