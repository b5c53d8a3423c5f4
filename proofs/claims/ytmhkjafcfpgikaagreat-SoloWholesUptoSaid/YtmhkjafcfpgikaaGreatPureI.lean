/- Functions of the program as plain Lean, and what they come to. Conditions: none. -/
import Derived.Test.YtmhkjafcfpgikaaGreatEwD
import Derived.Test.YtmhkjafcfpgikaaGreatWalkI
open Go Go.Ew Go.RowKit
namespace Go.Proofs.YtmhkjafcfpgikaaGreat.I
set_option linter.unusedVariables false
noncomputable def firstF (x:Int×Unit):Option (Int×Bool×Unit):=if 0≤x.1∧x.1≤255 then some ((firstV x.1).1,(firstV x.1).2,()) else none
theorem below_rel {S:Stay} {w w':World} (hr:Rel S [] [] w) (hb:Below w.heap.size w w'):Rel S [] [] w'∧Frx S S [] [] w w':=by
 refine ⟨⟨hr.len,hr.inj,fun i b n t h=>by simp at h,fun i b t h=>by simp at h,fun n o h => ?_,fun n h=>by simp [nums] at h⟩,⟨hb.os,hb.tape,hb.output,hb.size,rfl,id,fun _ h=> .inl h,fun k hk _=>hb.block k hk,Stay.le.refl S,fun _ _ h=> .inl h⟩⟩
 have:=hr.sig n o h
 exact ⟨(hb.block n (Array.getElem?_eq_some_iff.1 this.1).1).trans this.1,this.2⟩
theorem first_ok:PureOK Tryz.prog 59 [.k (.i .u8)] [.k (.i .i64), .k .b] firstF:=by
 intro x y hx
 obtain ⟨p,u⟩:=x
 unfold firstF at hx
 split at hx
 ·rename_i hp
  simp only [Option.some.injEq] at hx
  subst hx
  refine ⟨⟨Tryz.f59,Tryz.func59,by rfl,by rfl⟩,fun S w A hr hA => ?_⟩
  have hA':A=[.int .u8 p]:=by
   match A,hA with
   | [V],h=>exact congrArg (fun z=>[z]) h.1.1
  subst hA'
  refine (First_calls hp w).mono ?_
  rintro e w' ⟨rfl,hb⟩
  obtain ⟨h1,h2⟩:=below_rel hr hb
  refine ⟨S,_,rfl,?_,h1,h2⟩
  exact ⟨[_,_],⟨⟨rfl,rfl⟩,⟨rfl,rfl⟩,trivial⟩,rfl⟩
 ·simp at hx
end Go.Proofs.YtmhkjafcfpgikaaGreat.I
