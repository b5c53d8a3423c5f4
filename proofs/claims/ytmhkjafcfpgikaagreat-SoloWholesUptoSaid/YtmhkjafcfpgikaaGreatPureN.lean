/- Functions of the program as plain Lean, and what they come to. Conditions: none. -/
import Derived.Test.YtmhkjafcfpgikaaGreatEwD
import Derived.Test.YtmhkjafcfpgikaaGreatWalkV
import Derived.Test.YtmhkjafcfpgikaaGreatPureR
open Go Go.Ew
namespace Go.Proofs.YtmhkjafcfpgikaaGreat.E
open Go.IntKind (wrap)
set_option linter.unusedVariables false
set_option linter.unusedSimpArgs false
set_option maxRecDepth 100000
def hexT:List UInt8:=[48,49,50,51,52,53,54,55,56,57,65,66,67,68,69,70]
def hex8B (v:Int):ByteArray:=⟨#[hexT.getD (v / 16).toNat 0,hexT.getD (v%16).toNat 0]⟩
theorem hex8_fin:∀ v:Fin 256,word_Hex8.F ((v.val:Int),())=some (hex8B (v.val:Int),()):=by decide +kernel
theorem hex8_spec {v:Int} (h:byte v):word_Hex8.F (v,())=some (hex8B v,()):=by
 have a:=h.1
 have b:=h.2
 obtain ⟨m,rfl⟩:=Int.eq_ofNat_of_zero_le a
 exact hex8_fin ⟨m,by omega⟩
theorem hex8_size (v:Int):(hex8B v).size=2:=rfl
def hex16B (w:Int):ByteArray:=hex8B (w / 256)++hex8B (w%256)
theorem hex16_size (v:Int):(hex16B v).size=4:=by unfold hex16B;rw [ByteArray.size_append];rfl
theorem hex16_spec {w:Int} (h:word w):word_Hex16.F (w,())=some (hex16B w,()):=by
 show word_Hex16.G word_Hex8.F w=_
 unfold word_Hex16.G
 rw [hi8 h,show wrap .u8 w=w%256 from rfl]
 refine (bind_eq (hex8_spec (hi_byte h))).trans ?_
 refine (bind_eq (hex8_spec (lo_byte w))).trans ?_
 exact if_pos (by dsimp only;rw [hex8_size,hex8_size];decide)
def lineB (a:A3):ByteArray:=
 if a.1=0 then ⟨#[45]⟩ else if a.1=1 then ⟨#[70,32]⟩++hex16B a.2.1++⟨#[61]⟩++hex8B a.2.2 else if a.1=2 then ⟨#[82,32]⟩++hex16B a.2.1++⟨#[61]⟩++hex8B a.2.2
 else if a.1=3 then ⟨#[87,32]⟩++hex16B a.2.1++⟨#[61]⟩++hex8B a.2.2 else ⟨#[63]⟩
theorem line_spec {a:A3} (h1:word a.2.1) (h2:byte a.2.2):solo_Line.F (a,())=some (lineB a,()):=by
 obtain ⟨k,ad,d⟩:=a
 show solo_Line.G word_Hex8.F word_Hex16.F (k,ad,d)=_
 unfold solo_Line.G lineB
 dsimp only
 by_cases k0:k=0
 ·subst k0;rfl
 rw [if_neg (by simp [k0]),if_neg k0]
 have e1:ByteArray.extract { data:={ toList:=[UInt8.ofNat (63:Nat),UInt8.ofNat (70:Nat),UInt8.ofNat (82:Nat),UInt8.ofNat (87:Nat)] } } (Int.toNat 1) (Int.toNat (wrap .i64 (1+(1:Int))))++{ data:={ toList:=[UInt8.ofNat (32:Nat)] } }=(⟨#[70,32]⟩:ByteArray):=by decide +kernel
 have e2:ByteArray.extract { data:={ toList:=[UInt8.ofNat (63:Nat),UInt8.ofNat (70:Nat),UInt8.ofNat (82:Nat),UInt8.ofNat (87:Nat)] } } (Int.toNat 2) (Int.toNat (wrap .i64 (2+(1:Int))))++{ data:={ toList:=[UInt8.ofNat (32:Nat)] } }=(⟨#[82,32]⟩:ByteArray):=by decide +kernel
 have e3:ByteArray.extract { data:={ toList:=[UInt8.ofNat (63:Nat),UInt8.ofNat (70:Nat),UInt8.ofNat (82:Nat),UInt8.ofNat (87:Nat)] } } (Int.toNat 3) (Int.toNat (wrap .i64 (3+(1:Int))))++{ data:={ toList:=[UInt8.ofNat (32:Nat)] } }=(⟨#[87,32]⟩:ByteArray):=by decide +kernel
 have f1:decide (ByteArray.size (ByteArray.extract { data:={ toList:=[UInt8.ofNat (63:Nat),UInt8.ofNat (70:Nat),UInt8.ofNat (82:Nat),UInt8.ofNat (87:Nat)] } } (Int.toNat 1) (Int.toNat (wrap .i64 (1+(1:Int)))))+(1:Nat)≤(9223372036854775807:Nat))=true:=by decide +kernel
 have f2:decide (ByteArray.size (ByteArray.extract { data:={ toList:=[UInt8.ofNat (63:Nat),UInt8.ofNat (70:Nat),UInt8.ofNat (82:Nat),UInt8.ofNat (87:Nat)] } } (Int.toNat 2) (Int.toNat (wrap .i64 (2+(1:Int)))))+(1:Nat)≤(9223372036854775807:Nat))=true:=by decide +kernel
 have f3:decide (ByteArray.size (ByteArray.extract { data:={ toList:=[UInt8.ofNat (63:Nat),UInt8.ofNat (70:Nat),UInt8.ofNat (82:Nat),UInt8.ofNat (87:Nat)] } } (Int.toNat 3) (Int.toNat (wrap .i64 (3+(1:Int)))))+(1:Nat)≤(9223372036854775807:Nat))=true:=by decide +kernel
 have s2:∀ x y:UInt8,(⟨#[x,y]⟩:ByteArray).size=2:=fun _ _=>rfl
 have s1:∀ x:UInt8,(⟨#[x]⟩:ByteArray).size=1:=fun _=>rfl
 by_cases k1:k=1
 ·subst k1
  simp only [e1]
  refine (if_pos rfl).trans ?_
  refine (if_pos (by decide)).trans ?_
  refine (if_pos f1).trans ?_
  refine (bind_eq (hex16_spec h1)).trans ?_
  refine (if_pos (by dsimp only;rw [s2,hex16_size];decide)).trans ?_
  refine (if_pos (by dsimp only;rw [ByteArray.size_append,s2,hex16_size];decide)).trans ?_
  refine (bind_eq (hex8_spec h2)).trans ?_
  refine (if_pos (by dsimp only;rw [ByteArray.size_append,ByteArray.size_append,s2,hex16_size,hex8_size];decide)).trans ?_
  rfl
 by_cases k2:k=2
 ·subst k2
  simp only [e2]
  refine (if_neg (by decide)).trans ?_
  refine (if_pos rfl).trans ?_
  refine (if_pos (by decide)).trans ?_
  refine (if_pos f2).trans ?_
  refine (bind_eq (hex16_spec h1)).trans ?_
  refine (if_pos (by dsimp only;rw [s2,hex16_size];decide)).trans ?_
  refine (if_pos (by dsimp only;rw [ByteArray.size_append,s2,hex16_size];decide)).trans ?_
  refine (bind_eq (hex8_spec h2)).trans ?_
  refine (if_pos (by dsimp only;rw [ByteArray.size_append,ByteArray.size_append,s2,hex16_size,hex8_size];decide)).trans ?_
  rfl
 by_cases k3:k=3
 ·subst k3
  simp only [e3]
  refine (if_neg (by decide)).trans ?_
  refine (if_neg (by decide)).trans ?_
  refine (if_pos rfl).trans ?_
  refine (if_pos (by decide)).trans ?_
  refine (if_pos f3).trans ?_
  refine (bind_eq (hex16_spec h1)).trans ?_
  refine (if_pos (by dsimp only;rw [s2,hex16_size];decide)).trans ?_
  refine (if_pos (by dsimp only;rw [ByteArray.size_append,s2,hex16_size];decide)).trans ?_
  refine (bind_eq (hex8_spec h2)).trans ?_
  refine (if_pos (by dsimp only;rw [ByteArray.size_append,ByteArray.size_append,s2,hex16_size,hex8_size];decide)).trans ?_
  rfl
 rw [if_neg (by simp [k1]),if_neg (by simp [k2]),if_neg (by simp [k3]),if_neg k1,if_neg k2,if_neg k3]
 rfl
end Go.Proofs.YtmhkjafcfpgikaaGreat.E
