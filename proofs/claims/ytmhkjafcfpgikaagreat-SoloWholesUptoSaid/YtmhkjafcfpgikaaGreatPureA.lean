/- Functions of the program as plain Lean, and what they come to. Conditions: none. -/
import Derived.Test.YtmhkjafcfpgikaaGreatEwD
import Derived.Test.YtmhkjafcfpgikaaGreatWalkA
open Go Go.Ew
namespace Go.Proofs.YtmhkjafcfpgikaaGreat.E
open Go.IntKind (wrap)
set_option linter.unusedVariables false
set_option linter.unusedSimpArgs false
set_option maxRecDepth 100000

def byte (v:Int):Prop:=0≤v∧v≤255
def word (v:Int):Prop:=0≤v∧v≤65535
abbrev FL:=Bool×Bool×Bool×Bool
theorem power_spec (n:Nat) (hn:n<8):ref01_power.F ((n:Int),())=some (2 ^ n,()):=by
 unfold ref01_power.F ref01_power.G
 have h:ref01_power.L0.F (((n:Int),1,(0:Int),()),(),())=some ((2 ^ n,()),(),()):=by
  unfold ref01_power.L0.F
  refine (congrArg (iterU _) ?_).trans (iterU_range (fun i:Nat=>(((n:Int),2 ^ i,(i:Int),()),(),())) _ n ?_ ?_ 0 (by omega))
  ·rfl
  ·intro i hi
   unfold ref01_power.L0.step
   dsimp only
   have h':(i:Int)<(n:Int):=by omega
   have hp:(2:Int) ^ i≤2 ^ 7:=by
    have:(2:Nat) ^ i≤2 ^ 7:=Nat.pow_le_pow_right (by omega) (by omega)
    exact_mod_cast this
   have hp0:(0:Int)<2 ^ i:=Int.pow_pos (by omega)
   rw [if_pos (decide_eq_true h'),w64 (n:=(i:Int)+1) (by omega),w64 (n:=2 ^ i*2) (by omega),Int.pow_succ]
   rfl
  ·unfold ref01_power.L0.step
   simp
 rw [h];rfl
theorem rbit_spec {v:Int} (n:Nat) (hn:n<8) (h:byte v):ref01_Bit.F (v,(n:Int),())=some (bitB v n,()):=by
 unfold ref01_Bit.F ref01_Bit.G
 have g1:¬(n:Int)<0:=by omega
 have g2:¬(n:Int)>7:=by omega
 have hp0:(0:Int)<2 ^ n:=Int.pow_pos (by omega)
 have g3:¬((2:Int) ^ n=0):=by omega
 have h0:=h.1
 have h1:=h.2
 have q0:0≤v / 2 ^ n:=Int.ediv_nonneg h0 (by omega)
 have q1:v / 2 ^ n≤v:=Int.ediv_le_self _ h0
 simp only [g1,g2,decide_false,beq_self_eq_true,if_true,Bool.false_eq_true,if_false,power_spec n hn,Option.bind_some,g3,Bool.not_false]
 rw [w64 (n:=v) (by omega),tdivN h0,w64 (by omega),tmodN q0]
 rfl
def putS (v:Int) (n:Nat) (on:Bool):Int:=v - (if bitB v n=true then 2 ^ n else 0)+(if on=true then 2 ^ n else 0)
theorem putS_fin:∀ v:Fin 256,∀ n:Fin 8,∀ on:Bool,0≤putS (v.val:Int) n.val on∧putS (v.val:Int) n.val on≤255∧0≤(v.val:Int) - (if bitB (v.val:Int) n.val=true then 2 ^ n.val else 0):=by decide +kernel
theorem putS_byte {v:Int} (h:byte v) (n:Nat) (hn:n<8) (on:Bool):byte (putS v n on)∧0≤v - (if bitB v n=true then 2 ^ n else 0):=by
 have a:=h.1
 have b:=h.2
 have:=putS_fin ⟨v.toNat,by omega⟩ ⟨n,hn⟩ on
 simp only [Int.toNat_of_nonneg a] at this
 exact ⟨⟨this.1,this.2.1⟩,this.2.2⟩
theorem rput_spec {v:Int} (n:Nat) (hn:n<8) (h:byte v) (on:Bool):ref01_Put.F (v,(n:Int),on,())=some (putS v n on,()):=by
 have h0:=h.1
 have h1:=h.2
 have hb:=putS_byte h n hn on
 have hp0:(0:Int)<2 ^ n:=Int.pow_pos (by omega)
 have hp:(2:Int) ^ n≤2 ^ 7:=by
  have:(2:Nat) ^ n≤2 ^ 7:=Nat.pow_le_pow_right (by omega) (by omega)
  exact_mod_cast this
 obtain ⟨⟨b0,b1⟩,b2⟩:=hb
 unfold ref01_Put.F ref01_Put.G putS
 unfold putS at b0 b1
 have g1:¬(n:Int)<0:=by omega
 have g2:¬(n:Int)>7:=by omega
 simp only [g1,g2,decide_false,beq_self_eq_true,if_true,Bool.false_eq_true,if_false,rbit_spec n hn h,power_spec n hn,Option.bind_some]
 rw [w64 (n:=v) (by omega)]
 generalize bitB v n=bt at *
 cases bt<;>cases on<;>simp only [if_true,if_false,Bool.false_eq_true,Int.sub_zero,Int.add_zero] at b0 b1 b2 ⊢
 ·rw [w8 (by omega)]
 ·rw [w64 (n:=v+2 ^ n) (by omega),w8 (by omega)]
 ·rw [w64 (n:=v - 2 ^ n) (by omega),w8 (by omega)]
 ·rw [w64 (n:=v - 2 ^ n) (by omega),w64 (n:=v - 2 ^ n+2 ^ n) (by omega),w8 (by omega)]
theorem wput_fin:∀ v:Fin 256,∀ n:Fin 8,bits .or .u8 (v.val:Int) (wrap .u8 (1*2 ^ n.val))=putS (v.val:Int) n.val true∧bits .andNot .u8 (v.val:Int) (wrap .u8 (1*2 ^ n.val))=putS (v.val:Int) n.val false:=by decide +kernel
theorem wput_spec {v:Int} (n:Nat) (hn:n<8) (h:byte v) (on:Bool):word_Put.F (v,(n:Int),on,())=some (putS v n on,()):=by
 have h0:=h.1
 have h1:=h.2
 have hf:=wput_fin ⟨v.toNat,by omega⟩ ⟨n,hn⟩
 simp only [Int.toNat_of_nonneg h0] at hf
 unfold word_Put.F word_Put.G
 have g1:¬(n:Int)<0:=by omega
 have g2:¬(n:Int)>7:=by omega
 simp only [g1,g2,decide_false,beq_self_eq_true,if_true,Bool.false_eq_true,if_false,Bool.not_false,Int.toNat_natCast]
 rw [Nat.min_eq_left (by omega),hf.1,hf.2]
 cases on<;>simp
theorem join_spec {h l:Int} (hh:byte h) (hl:byte l):ref01_Join.F (h,l,())=some (256*h+l,()):=by
 have a:=hh.1
 have b:=hh.2
 have c:=hl.1
 have d:=hl.2
 unfold ref01_Join.F ref01_Join.G
 rw [w64 (n:=h) (by omega),w64 (n:=h*256) (by omega),w64 (n:=l) (by omega),w64 (n:=h*256+l) (by omega),w16 (by omega),show h*256=256*h by omega]
theorem split_spec {w:Int} (h:word w):ref01_Split.F (w,())=some (w / 256,w%256,()):=by
 have a:=h.1
 have b:=h.2
 unfold ref01_Split.F ref01_Split.G
 rw [w64 (n:=w) (by omega),tdivN a,tmodN a,w64 (n:=w / 256) (by omega),w8 (by omega),w8 (by omega)]
def sgn (v:Int):Int:=if v<128 then v else v - 256
theorem signed_spec {v:Int} (h:byte v):ref01_Signed.F (v,())=some (sgn v,()):=by
 have a:=h.1
 have b:=h.2
 unfold ref01_Signed.F ref01_Signed.G sgn
 rw [w64 (n:=v) (by omega),w64 (by omega)]
 by_cases q:v<128<;>simp [q]
theorem i8w {n:Int} (h:byte n):wrap .i8 n=sgn n:=by
 have h0:=h.1
 have h1:=h.2
 simp [IntKind.wrap,IntKind.bits,IntKind.signed,sgn]
 split<;>split<;>omega
theorem i16w {n:Int} (h : -128≤n∧n≤127):wrap .i16 n=n:=by
 simp [IntKind.wrap,IntKind.bits,IntKind.signed]
 omega
def ofS (b:Int):FL:=(bitB b 7,bitB b 6,bitB b 5,bitB b 4)
def flS (f:FL):Int:=(if f.1=true then 128 else 0)+(if f.2.1=true then 64 else 0)+(if f.2.2.1=true then 32 else 0)+(if f.2.2.2=true then 16 else 0)
theorem flS_byte (f:FL):byte (flS f):=by
 obtain ⟨a,b,c,d⟩:=f
 cases a<;>cases b<;>cases c<;>cases d<;>(unfold flS byte;simp)
theorem of_fin:∀ v:Fin 256,((bits .and .u8 (v.val:Int) 128 != 0,bits .and .u8 (v.val:Int) 64 != 0,bits .and .u8 (v.val:Int) 32 != 0,bits .and .u8 (v.val:Int) 16 != 0):FL)=ofS (v.val:Int):=by decide +kernel
theorem of_spec {b:Int} (h:byte b):alu_Of.F (b,())=some (ofS b,()):=by
 have h0:=h.1
 have h1:=h.2
 have hf:=of_fin ⟨b.toNat,by omega⟩
 simp only [Int.toNat_of_nonneg h0] at hf
 unfold alu_Of.F alu_Of.G
 rw [hf]
theorem rof_spec {b:Int} (h:byte b):ref02_Of.F (b,())=some (ofS b,()):=by
 unfold ref02_Of.F ref02_Of.G
 have e7:ref01_Bit.F (b,7,())=some (bitB b 7,()):=rbit_spec 7 (by omega) h
 have e6:ref01_Bit.F (b,6,())=some (bitB b 6,()):=rbit_spec 6 (by omega) h
 have e5:ref01_Bit.F (b,5,())=some (bitB b 5,()):=rbit_spec 5 (by omega) h
 have e4:ref01_Bit.F (b,4,())=some (bitB b 4,()):=rbit_spec 4 (by omega) h
 simp only [e7,e6,e5,e4,Option.bind_some]
 rfl
theorem byte_it:∀ a b c d:Bool,iterN (fun x=>alu_Byte.L0.step x.1.1 x.1.2.1 x.1.2.2.1) 5 ((0,[(a,128),(b,64),(c,32),(d,16)],0,()),(),())=some ((flS (a,b,c,d),()),(),()):=by decide +kernel
theorem byte_spec (f:FL):alu_Byte.F (f,())=some (flS f,()):=by
 unfold alu_Byte.F alu_Byte.G
 have h:alu_Byte.L0.F ((0,[(f.1,128),(f.2.1,64),(f.2.2.1,32),(f.2.2.2,16)],0,()),(),())=some ((flS f,()),(),()):=iterU_of (byte_it f.1 f.2.1 f.2.2.1 f.2.2.2)
 dsimp only
 rw [h];rfl
theorem rbyte_spec (f:FL):ref02_Byte.F (f,())=some (flS f,()):=by
 obtain ⟨a,b,c,d⟩:=f
 cases a<;>cases b<;>cases c<;>cases d<;>rfl
def addS (a v c:Int):Int×FL:=((a+v+c)%256,(decide ((a+v+c)%256=0),false,decide (a%16+v%16+c>15),decide (a+v+c>255)))
def subS (a v c:Int):Int×FL:=((a - v - c)%256,(decide ((a - v - c)%256=0),true,decide (a%16<v%16+c),decide (a<v+c)))
theorem beqD (x y:Int):(x==y)=decide (x=y):=by
 by_cases h:x=y<;>simp [h]
def chk (o:Option (Int×FL×Unit)) (p:Int×FL):Bool:=match o with
 | some x=>x.1==p.1&&x.2.1.1==p.2.1&&x.2.1.2.1==p.2.2.1&&x.2.1.2.2.1==p.2.2.2.1&&x.2.1.2.2.2==p.2.2.2.2
 | none=>false
theorem chk_eq {o:Option (Int×FL×Unit)} {p:Int×FL} (h:chk o p=true):o=some (p.1,p.2,()):=by
 cases o with
 | none=>simp [chk] at h
 | some x=>
  obtain ⟨a,⟨b,c,d,e⟩,u⟩:=x
  obtain ⟨a',b',c',d',e'⟩:=p
  simp only [chk,Bool.and_eq_true,beq_iff_eq] at h
  obtain ⟨⟨⟨⟨rfl,rfl⟩,rfl⟩,rfl⟩,rfl⟩:=h
  rfl
theorem beq0 (x:Int):(x==0)=decide (x=0):=by
 by_cases h:x=0<;>simp [h]
theorem add_spec {a v c:Int} (ha:byte a) (hv:byte v) (c0:0≤c) (c1:c<2):alu_add.F (a,v,c,())=some ((addS a v c).1,(addS a v c).2,()):=by
 have a0:=ha.1
 have a1:=ha.2
 have v0:=hv.1
 have v1:=hv.2
 unfold alu_add.F alu_add.G addS
 dsimp only
 rw [w16 (n:=a) (by omega),w16 (n:=v) (by omega),w16 (n:=a+v) (by omega),w16 (n:=c) (by omega),w16 (n:=a+v+c) (by omega),m8,half a0 (by omega) v0 (by omega) c0 c1,fdivN (by omega),beq0]
 have e:((a+v+c) / 256 != 0)=decide (a+v+c>255):=by
  by_cases q:a+v+c>255
  ·rw [decide_eq_true q,show (a+v+c) / 256=1 by omega];rfl
  ·rw [decide_eq_false q,show (a+v+c) / 256=0 by omega];rfl
 rw [e]
theorem sub_spec {a v c:Int} (ha:byte a) (hv:byte v) (c0:0≤c) (c1:c<2):alu_sub.F (a,v,c,())=some ((subS a v c).1,(subS a v c).2,()):=by
 have a0:=ha.1
 have a1:=ha.2
 have v0:=hv.1
 have v1:=hv.2
 unfold alu_sub.F alu_sub.G subS
 dsimp only
 rw [not8 v0 (by omega),w8 (n:=1 - c) (by omega),add_spec ha ⟨by omega,by omega⟩ (by omega) (by omega)]
 simp only [Option.bind_some,addS,beq0]
 have e1:(a+(255 - v)+(1 - c))%256=(a - v - c)%256:=by omega
 have e6:(!decide (a%16+(255 - v)%16+(1 - c)>15))=decide (a%16<v%16+c):=by
  by_cases q:a%16<v%16+c
  ·rw [decide_eq_true q,decide_eq_false (by omega)];rfl
  ·rw [decide_eq_false q,decide_eq_true (by omega)];rfl
 have e7:(!decide (a+(255 - v)+(1 - c)>255))=decide (a<v+c):=by
  by_cases q:a<v+c
  ·rw [decide_eq_true q,decide_eq_false (by omega)];rfl
  ·rw [decide_eq_false q,decide_eq_true (by omega)];rfl
 rw [e1,e6,e7]
def opN (op:Nat) (a v:Nat):Nat:=if op=4 then a &&& v else if op=5 then a ^^^ v else a ||| v
def eachS (op:Nat) (a v:Int):Int:=(opN op a.toNat v.toNat:Nat)
def doS (op:Nat) (a v:Int) (f:FL):Int×FL:=
 if op=0 then addS a v 0 else if op=1 then addS a v (if f.2.2.2=true then 1 else 0) else if op=2 then subS a v 0 else if op=3 then subS a v (if f.2.2.2=true then 1 else 0)
 else if op=7 then (a,(subS a v 0).2) else (eachS op a v,(decide (eachS op a v=0),false,decide (op=4),false))
theorem eachS_byte {op:Nat} {a v:Int} (ha:byte a) (hv:byte v):byte (eachS op a v):=by
 have a0:=ha.1
 have a1:=ha.2
 have v0:=hv.1
 have v1:=hv.2
 unfold eachS opN byte
 have h1:a.toNat &&& v.toNat<2 ^ 8:=Nat.lt_of_le_of_lt Nat.and_le_left (by omega)
 have h2:a.toNat ^^^ v.toNat<2 ^ 8:=Nat.xor_lt_two_pow (by omega) (by omega)
 have h3:a.toNat ||| v.toNat<2 ^ 8:=Nat.or_lt_two_pow (by omega) (by omega)
 split
 ·omega
 ·split<;>omega
theorem op7_fin:∀ n:Fin 8,bits .and .i64 (n.val:Int) 7=(n.val:Int):=by decide +kernel
theorem do_spec {op:Nat} (ho:op<8) {a v:Int} (ha:byte a) (hv:byte v) (f:FL):alu_Do.F ((op:Int),a,v,f,())=some ((doS op a v f).1,(doS op a v f).2,()):=by
 have a0:=ha.1
 have a1:=ha.2
 have v0:=hv.1
 have v1:=hv.2
 unfold alu_Do.F alu_Do.G
 have e7:bits .and .i64 (op:Int) 7=(op:Int):=op7_fin ⟨op,ho⟩
 obtain ⟨fz,fn,fh,fc⟩:=f
 dsimp only
 simp only [e7,add_spec ha hv (c:=0) (by omega) (by omega),add_spec ha hv (c:=1) (by omega) (by omega),sub_spec ha hv (c:=0) (by omega) (by omega),sub_spec ha hv (c:=1) (by omega) (by omega),Option.bind_some]
 obtain ⟨m,rfl,hm⟩:=nat_of8 a0 (by omega)
 obtain ⟨n,rfl,hn⟩:=nat_of8 v0 (by omega)
 rw [and8 hm hn,xor8 hm hn,or8 hm hn]
 have:op=0∨op=1∨op=2∨op=3∨op=4∨op=5∨op=6∨op=7:=by omega
 rcases this with rfl | rfl | rfl | rfl | rfl | rfl | rfl | rfl
 ·simp [doS]
 ·cases fc<;>simp [doS]
 ·simp [doS]
 ·cases fc<;>simp [doS]
 ·simp [doS,eachS,opN,beq0]
 ·have:((m:Int)==(n:Int))=decide (m ^^^ n=0):=by
   by_cases q:m=n
   ·subst q;simp
   ·have h2:¬m ^^^ n=0:=fun h=>q (by
     have e:m ^^^ n ^^^ n=0 ^^^ n:=by rw [h]
     rw [Nat.xor_assoc,Nat.xor_self,Nat.xor_zero,Nat.zero_xor] at e
     exact e)
    have h3:¬(m:Int)=(n:Int):=fun h=>q (by omega)
    simp [h2,h3]
  simp [doS,eachS,opN,this]
 ·simp [doS,eachS,opN,beq0]
 ·simp [doS]
theorem rop_spec {op:Nat} (ho:op<8):ref02_Op.F ((op:Int),())=some ((op:Int),()):=by
 have:op=0∨op=1∨op=2∨op=3∨op=4∨op=5∨op=6∨op=7:=by omega
 rcases this with rfl | rfl | rfl | rfl | rfl | rfl | rfl | rfl<;>rfl
theorem put_low {m k:Nat} (hm:m<256) (hk:k<8):putS ((m%2 ^ k:Nat):Int) k (m.testBit k)=((m%2 ^ (k+1):Nat):Int):=by
 have h2:m%2 ^ k<2 ^ k:=Nat.mod_lt _ (Nat.two_pow_pos k)
 have hb:bitB ((m%2 ^ k:Nat):Int) k=false:=by
  unfold bitB
  have:((m%2 ^ k:Nat):Int) / 2 ^ k=0:=by
   have e:((m%2 ^ k:Nat):Int) / ((2 ^ k:Nat):Int)=((m%2 ^ k / 2 ^ k:Nat):Int):=(Int.natCast_ediv _ _).symm
   rw [Nat.div_eq_of_lt h2] at e
   exact_mod_cast e
  rw [this];rfl
 unfold putS
 rw [hb,Nat.testBit_eq_decide_div_mod_eq,Nat.pow_succ,Nat.mod_mul]
 have h3:=Nat.mod_two_eq_zero_or_one (m / 2 ^ k)
 rcases h3 with q | q<;>simp [q]
theorem bit_test {m n:Nat}:bitB (m:Int) n=m.testBit n:=by
 unfold bitB
 rw [Nat.testBit_eq_decide_div_mod_eq]
 have e:(m:Int) / 2 ^ n%2=((m / 2 ^ n%2:Nat):Int):=by
  rw [Int.natCast_emod,Int.natCast_ediv]
  rfl
 rw [e]
 by_cases q:m / 2 ^ n%2=1
 ·simp [q]
 ·have:¬((m / 2 ^ n%2:Nat):Int)=1:=by omega
  rw [decide_eq_false this,decide_eq_false q]
theorem opN_test {op:Nat} {m n k:Nat}:(opN op m n).testBit k=if op=4 then m.testBit k&&n.testBit k else if op=5 then (m.testBit k != n.testBit k) else (m.testBit k||n.testBit k):=by
 unfold opN
 split
 ·exact Nat.testBit_and ..
 ·split
  ·rw [Nat.testBit_xor]
  ·exact Nat.testBit_or ..
theorem opN_lt {op m n:Nat} (hm:m<256) (hn:n<256):opN op m n<256:=by
 have h1:m &&& n<2 ^ 8:=Nat.lt_of_le_of_lt Nat.and_le_left (by omega)
 have h2:m ^^^ n<2 ^ 8:=Nat.xor_lt_two_pow (by omega) (by omega)
 have h3:m ||| n<2 ^ 8:=Nat.or_lt_two_pow (by omega) (by omega)
 unfold opN
 split
 ·omega
 ·split<;>omega
theorem each_loop {op:Nat} {m n:Nat} (hm:m<256) (hn:n<256):ref02_each.L0.F (((op:Int),(m:Int),(n:Int),0,0,()),(),())=some ((((opN op m n:Nat):Int),()),(),()):=by
 unfold ref02_each.L0.F
 refine (congrArg (iterU _) ?_).trans (iterU_range (fun i:Nat=>(((op:Int),(m:Int),(n:Int),((opN op m n%2 ^ i:Nat):Int),(i:Int),()),(),())) _ 8 ?_ ?_ 0 (by omega))
 ·rw [Nat.pow_zero,Nat.mod_one];rfl
 ·intro i hi
  unfold ref02_each.L0.step
  dsimp only
  have g:(i:Int)<8:=by omega
  have hlt:opN op m n%2 ^ i<256:=Nat.lt_of_le_of_lt (Nat.mod_le _ _) (opN_lt hm hn)
  have hput:∀ on,ref01_Put.F (((opN op m n%2 ^ i:Nat):Int),(i:Int),on,())=some (putS ((opN op m n%2 ^ i:Nat):Int) i on,()):=fun on=>rput_spec i hi ⟨by omega,by omega⟩ on
  rw [if_pos (decide_eq_true g),rbit_spec (v:=(m:Int)) i hi ⟨by omega,by omega⟩,rbit_spec (v:=(n:Int)) i hi ⟨by omega,by omega⟩,w64 (n:=(i:Int)+1) (by omega)]
  simp only [Option.bind_some,hput,bit_test]
  have hl:=put_low (opN_lt (op:=op) hm hn) hi
  rw [opN_test] at hl
  rw [show ((i+1:Nat):Int)=(i:Int)+1 by omega,← hl]
  generalize m.testBit i=x
  generalize n.testBit i=y
  by_cases q4:op=4
  ·subst q4
   cases x<;>cases y<;>simp
  ·by_cases q5:op=5
   ·subst q5
    cases x<;>cases y<;>simp
   ·have h4:¬(op:Int)=4:=by omega
    have h5:¬(op:Int)=5:=by omega
    cases x<;>cases y<;>simp [q4,q5,h4,h5]
 ·unfold ref02_each.L0.step
  simp [Nat.mod_eq_of_lt (opN_lt (op:=op) hm hn)]
theorem each_spec {op:Nat} {a v:Int} (ha:byte a) (hv:byte v):ref02_each.F ((op:Int),a,v,())=some (eachS op a v,()):=by
 obtain ⟨m,rfl,hm⟩:=nat_of8 ha.1 (by have:=ha.2;omega)
 obtain ⟨n,rfl,hn⟩:=nat_of8 hv.1 (by have:=hv.2;omega)
 unfold ref02_each.F ref02_each.G
 dsimp only
 rw [each_loop hm hn]
 rfl
theorem rdo_spec {op:Nat} (ho:op<8) {a v:Int} (ha:byte a) (hv:byte v) (f:FL):ref02_Do.F ((op:Int),a,v,f,())=some ((doS op a v f).1,(doS op a v f).2,()):=by
 have a0:=ha.1
 have a1:=ha.2
 have v0:=hv.1
 have v1:=hv.2
 obtain ⟨fz,fn,fh,fc⟩:=f
 unfold ref02_Do.F ref02_Do.G
 dsimp only
 rw [rop_spec ho]
 simp only [Option.bind_some,each_spec ha hv]
 rw [w64 (n:=a) (by omega),w64 (n:=v) (by omega),tmodN a0,tmodN v0]
 have n0:((0:Nat):Int)=0:=rfl
 have n1:((1:Nat):Int)=1:=rfl
 have n2:((2:Nat):Int)=2:=rfl
 have n3:((3:Nat):Int)=3:=rfl
 have n4:((4:Nat):Int)=4:=rfl
 have n5:((5:Nat):Int)=5:=rfl
 have n6:((6:Nat):Int)=6:=rfl
 have n7:((7:Nat):Int)=7:=rfl
 have:op=0∨op=1∨op=2∨op=3∨op=4∨op=5∨op=6∨op=7:=by omega
 rcases this with rfl | rfl | rfl | rfl | rfl | rfl | rfl | rfl
 ·simp only [n0,Int.reduceBEq,beq_self_eq_true,beq_iff_eq,Bool.false_eq_true,Bool.true_eq_false,Bool.not_true,Bool.not_false,reduceIte,if_true,if_false,Int.reduceLT,decide_true,decide_false,Bool.false_beq,Bool.true_beq]
  simp (disch:=omega) only [w64,tmodN,w8,beq0]
  unfold doS addS
  simp
 ·cases fc
  ·simp only [n1,Int.reduceBEq,beq_self_eq_true,beq_iff_eq,Bool.false_eq_true,Bool.true_eq_false,Bool.not_true,Bool.not_false,reduceIte,if_true,if_false,Int.reduceLT,decide_true,decide_false,Bool.false_beq,Bool.true_beq]
   simp (disch:=omega) only [w64,tmodN,w8,beq0]
   unfold doS addS
   simp
  ·simp only [n1,Int.reduceBEq,beq_self_eq_true,beq_iff_eq,Bool.false_eq_true,Bool.true_eq_false,Bool.not_true,Bool.not_false,reduceIte,if_true,if_false,Int.reduceLT,decide_true,decide_false,Bool.false_beq,Bool.true_beq]
   simp (disch:=omega) only [w64,tmodN,w8,beq0]
   unfold doS addS
   simp
 ·simp only [n2,Int.reduceBEq,beq_self_eq_true,beq_iff_eq,Bool.false_eq_true,Bool.true_eq_false,Bool.not_true,Bool.not_false,reduceIte,if_true,if_false,Int.reduceLT,decide_true,decide_false,Bool.false_beq,Bool.true_beq]
  simp (disch:=omega) only [w64,tmodN,w8,beq0]
  unfold doS subS
  have e:(a - v - 0+512)%256=(a - v - 0)%256:=by omega
  simp only [e]
  simp
 ·cases fc
  ·simp only [n3,Int.reduceBEq,beq_self_eq_true,beq_iff_eq,Bool.false_eq_true,Bool.true_eq_false,Bool.not_true,Bool.not_false,reduceIte,if_true,if_false,Int.reduceLT,decide_true,decide_false,Bool.false_beq,Bool.true_beq]
   simp (disch:=omega) only [w64,tmodN,w8,beq0]
   unfold doS subS
   have e:(a - v - 0+512)%256=(a - v - 0)%256:=by omega
   simp only [e]
   simp
  ·simp only [n3,Int.reduceBEq,beq_self_eq_true,beq_iff_eq,Bool.false_eq_true,Bool.true_eq_false,Bool.not_true,Bool.not_false,reduceIte,if_true,if_false,Int.reduceLT,decide_true,decide_false,Bool.false_beq,Bool.true_beq]
   simp (disch:=omega) only [w64,tmodN,w8,beq0]
   unfold doS subS
   have e:(a - v - 1+512)%256=(a - v - 1)%256:=by omega
   simp only [e]
   simp
 ·simp only [n4,Int.reduceBEq,beq_self_eq_true,beq_iff_eq,Bool.false_eq_true,Bool.true_eq_false,Bool.not_true,Bool.not_false,reduceIte,if_true,if_false,Int.reduceLT,decide_true,decide_false,Bool.false_beq,Bool.true_beq,beq0]
  unfold doS
  simp
 ·simp only [n5,Int.reduceBEq,beq_self_eq_true,beq_iff_eq,Bool.false_eq_true,Bool.true_eq_false,Bool.not_true,Bool.not_false,reduceIte,if_true,if_false,Int.reduceLT,decide_true,decide_false,Bool.false_beq,Bool.true_beq,beq0]
  unfold doS
  simp
 ·simp only [n6,Int.reduceBEq,beq_self_eq_true,beq_iff_eq,Bool.false_eq_true,Bool.true_eq_false,Bool.not_true,Bool.not_false,reduceIte,if_true,if_false,Int.reduceLT,decide_true,decide_false,Bool.false_beq,Bool.true_beq,beq0]
  unfold doS
  simp
 ·simp only [n7,Int.reduceBEq,beq_self_eq_true,beq_iff_eq,Bool.false_eq_true,Bool.true_eq_false,Bool.not_true,Bool.not_false,reduceIte,if_true,if_false,Int.reduceLT,decide_true,decide_false,Bool.false_beq,Bool.true_beq]
  simp (disch:=omega) only [w64,tmodN,w8,beq0]
  unfold doS subS
  have e:(a - v - 0+512)%256=(a - v - 0)%256:=by omega
  simp only [e]
  simp
def incS (v:Int) (f:FL):Int×FL:=((v+1)%256,(decide ((v+1)%256=0),false,decide (v%16=15),f.2.2.2))
def decS (v:Int) (f:FL):Int×FL:=((v+255)%256,(decide ((v+255)%256=0),true,decide (v%16=0),f.2.2.2))
theorem inc_spec {v:Int} (hv:byte v) (f:FL):alu_Inc.F (v,f,())=some ((incS v f).1,(incS v f).2,()):=by
 have v0:=hv.1
 have v1:=hv.2
 unfold alu_Inc.F alu_Inc.G incS
 dsimp only
 rw [add_spec hv (v:=1) ⟨by omega,by omega⟩ (by omega) (by omega)]
 simp only [Option.bind_some,addS]
 have e1:v+1+0=v+1:=by omega
 have e2:decide (v%16+1%16+0>15)=decide (v%16=15):=decide_eq_decide.2 (by omega)
 rw [e1,e2]
theorem dec_spec {v:Int} (hv:byte v) (f:FL):alu_Dec.F (v,f,())=some ((decS v f).1,(decS v f).2,()):=by
 have v0:=hv.1
 have v1:=hv.2
 unfold alu_Dec.F alu_Dec.G decS
 dsimp only
 rw [sub_spec hv (v:=1) ⟨by omega,by omega⟩ (by omega) (by omega)]
 simp only [Option.bind_some,subS]
 have e1:(v - 1 - 0)%256=(v+255)%256:=by omega
 have e2:decide (v%16<1%16+0)=decide (v%16=0):=decide_eq_decide.2 (by omega)
 rw [e1,e2]
theorem rinc_spec {v:Int} (hv:byte v) (f:FL):ref02_Inc.F (v,f,())=some ((incS v f).1,(incS v f).2,()):=by
 have v0:=hv.1
 have v1:=hv.2
 unfold ref02_Inc.F ref02_Inc.G incS
 dsimp only
 rw [w64 (n:=v) (by omega),w64 (n:=v+1) (by omega),tmodN (by omega),tmodN v0,w8 (by omega)]
 simp only [beqD]
theorem rdec_spec {v:Int} (hv:byte v) (f:FL):ref02_Dec.F (v,f,())=some ((decS v f).1,(decS v f).2,()):=by
 have v0:=hv.1
 have v1:=hv.2
 unfold ref02_Dec.F ref02_Dec.G decS
 dsimp only
 rw [w64 (n:=v) (by omega),w64 (n:=v+255) (by omega),tmodN (by omega),tmodN v0,w8 (by omega)]
 simp only [beqD]
def daaD (a:Int) (f:FL):Int:=(if f.2.2.2=true∨(f.2.1=false∧a>153) then 96 else 0)+(if f.2.2.1=true∨(f.2.1=false∧a%16>9) then 6 else 0)
def daaS (a:Int) (f:FL):Int×FL:=if f.2.1=true then ((a - daaD a f)%256,(decide ((a - daaD a f)%256=0),true,false,f.2.2.2)) else ((a+daaD a f)%256,(decide ((a+daaD a f)%256=0),false,false,decide (96≤daaD a f)))
theorem daa_fin:∀ a:Fin 256,∀ n h c:Bool,chk (alu_Daa.F ((a.val:Int),(false,n,h,c),())) (daaS (a.val:Int) (false,n,h,c))=true:=by decide +kernel
theorem rdaa_fin:∀ a:Fin 256,∀ n h c:Bool,chk (ref02_Daa.F ((a.val:Int),(false,n,h,c),())) (daaS (a.val:Int) (false,n,h,c))=true:=by decide +kernel
theorem daa_spec {a:Int} (ha:byte a) (f:FL):alu_Daa.F (a,f,())=some ((daaS a f).1,(daaS a f).2,()):=by
 have a0:=ha.1
 have a1:=ha.2
 have hf:=chk_eq (daa_fin ⟨a.toNat,by omega⟩ f.2.1 f.2.2.1 f.2.2.2)
 simp only [Int.toNat_of_nonneg a0] at hf
 exact hf
theorem rdaa_spec {a:Int} (ha:byte a) (f:FL):ref02_Daa.F (a,f,())=some ((daaS a f).1,(daaS a f).2,()):=by
 have a0:=ha.1
 have a1:=ha.2
 have hf:=chk_eq (rdaa_fin ⟨a.toNat,by omega⟩ f.2.1 f.2.2.1 f.2.2.2)
 simp only [Int.toNat_of_nonneg a0] at hf
 exact hf
def cplS (a:Int) (f:FL):Int×FL:=(255 - a,(f.1,true,true,f.2.2.2))
theorem cpl_spec {a:Int} (ha:byte a) (f:FL):alu_Cpl.F (a,f,())=some ((cplS a f).1,(cplS a f).2,()):=by
 unfold alu_Cpl.F alu_Cpl.G cplS
 dsimp only
 rw [not8 ha.1 (by have:=ha.2;omega)]
theorem rcpl_spec {a:Int} (ha:byte a) (f:FL):ref02_Cpl.F (a,f,())=some ((cplS a f).1,(cplS a f).2,()):=by
 have a0:=ha.1
 have a1:=ha.2
 unfold ref02_Cpl.F ref02_Cpl.G cplS
 dsimp only
 rw [w64 (n:=a) (by omega),w64 (n:=255 - a) (by omega),w8 (by omega)]
def scfS (f:FL):FL:=(f.1,false,false,true)
def ccfS (f:FL):FL:=(f.1,false,false,!f.2.2.2)
theorem scf_spec (f:FL):alu_Scf.F (f,())=some (scfS f,()):=rfl
theorem rscf_spec (f:FL):ref02_Scf.F (f,())=some (scfS f,()):=rfl
theorem ccf_spec (f:FL):alu_Ccf.F (f,())=some (ccfS f,()):=rfl
theorem rccf_spec (f:FL):ref02_Ccf.F (f,())=some (ccfS f,()):=rfl
def addwS (a b:Int) (f:FL):Int×FL:=((a+b)%65536,(f.1,false,decide (a%4096+b%4096>4095),decide (a+b>65535)))
def addeS (w e:Int):Int×FL:=((w+sgn e)%65536,(false,false,decide (w%16+e%16>15),decide (w%256+e>255)))
theorem addw_spec {a b:Int} (ha:word a) (hb:word b) (f:FL):alu_AddWords.F (a,b,f,())=some ((addwS a b f).1,(addwS a b f).2,()):=by
 have a0:=ha.1
 have a1:=ha.2
 have b0:=hb.1
 have b1:=hb.2
 unfold alu_AddWords.F alu_AddWords.G addwS
 dsimp only
 rw [w32 (n:=a) (by omega),w32 (n:=b) (by omega),w32 (n:=a+b) (by omega),m16,half16 a0 (by omega) b0 (by omega),fdivN (by omega)]
 have e:((a+b) / 65536 != 0)=decide (a+b>65535):=by
  by_cases q:a+b>65535
  ·rw [decide_eq_true q,show (a+b) / 65536=1 by omega];rfl
  ·rw [decide_eq_false q,show (a+b) / 65536=0 by omega];rfl
 rw [e]
theorem raddw_spec {a b:Int} (ha:word a) (hb:word b) (f:FL):ref02_AddWords.F (a,b,f,())=some ((addwS a b f).1,(addwS a b f).2,()):=by
 have a0:=ha.1
 have a1:=ha.2
 have b0:=hb.1
 have b1:=hb.2
 unfold ref02_AddWords.F ref02_AddWords.G addwS
 dsimp only
 rw [w64 (n:=a) (by omega),w64 (n:=b) (by omega),w64 (n:=a+b) (by omega),tmodN (by omega),tmodN a0,tmodN b0,w64 (by omega),w16 (by omega)]
theorem sgn_le {e:Int} (h:byte e) : -128≤sgn e∧sgn e≤127:=by
 have a:=h.1
 have b:=h.2
 unfold sgn;split<;>omega
theorem adde_spec {w e:Int} (hw:word w) (he:byte e):alu_AddSigned.F (w,e,())=some ((addeS w e).1,(addeS w e).2,()):=by
 have a0:=hw.1
 have a1:=hw.2
 have b0:=he.1
 have b1:=he.2
 have hs:=sgn_le he
 unfold alu_AddSigned.F alu_AddSigned.G addeS
 dsimp only
 rw [m8,add_spec (a:=w%256) ⟨by omega,by omega⟩ he (by omega) (by omega),i8w he,i16w hs]
 simp only [Option.bind_some,addS,m16]
 have e1:decide (w%256%16+e%16+0>15)=decide (w%16+e%16>15):=decide_eq_decide.2 (by omega)
 have e2:decide (w%256+e+0>255)=decide (w%256+e>255):=decide_eq_decide.2 (by omega)
 have e3:(w+sgn e%65536)%65536=(w+sgn e)%65536:=by omega
 rw [e1,e2,e3]
theorem radde_spec {w e:Int} (hw:word w) (he:byte e):ref02_AddSigned.F (w,e,())=some ((addeS w e).1,(addeS w e).2,()):=by
 have a0:=hw.1
 have a1:=hw.2
 have b0:=he.1
 have b1:=he.2
 have hs:=sgn_le he
 unfold ref02_AddSigned.F ref02_AddSigned.G addeS
 dsimp only
 rw [signed_spec he]
 simp only [Option.bind_some]
 rw [w64 (n:=w) (by omega),w64 (n:=e) (by omega),w64 (n:=w+sgn e) (by omega),w64 (n:=w+sgn e+65536) (by omega),tmodN (by omega),tmodN a0,tmodN a0,tmodN b0,w64 (by omega),w64 (by omega),w16 (by omega)]
 have e3:(w+sgn e+65536)%65536=(w+sgn e)%65536:=by omega
 rw [e3]
def mvS (v:Int) (up inn:Bool):Int:=if up=true then 2*v%256+(if inn=true then 1 else 0) else v / 2+(if inn=true then 128 else 0)
theorem mv_fin:∀ v:Fin 256,∀ up inn:Bool,0≤mvS (v.val:Int) up inn∧mvS (v.val:Int) up inn≤255∧∀ k:Fin 8,(mvS (v.val:Int) up inn).toNat.testBit k.val=if up=true then (if k.val=0 then inn else bitB (v.val:Int) (k.val - 1)) else (if k.val=7 then inn else bitB (v.val:Int) (k.val+1)):=by decide +kernel
theorem move_spec {v:Int} (hv:byte v) (up inn:Bool):ref03_move.F (v,up,inn,())=some (mvS v up inn,()):=by
 have v0:=hv.1
 have v1:=hv.2
 have hf:=mv_fin ⟨v.toNat,by omega⟩ up inn
 simp only [Int.toNat_of_nonneg v0] at hf
 obtain ⟨f0,f1,f2⟩:=hf
 unfold ref03_move.F ref03_move.G
 dsimp only
 have h:ref03_move.L0.F ((v,up,inn,0,0,()),(),())=some ((mvS v up inn,()),(),()):=by
  obtain ⟨m,hm,hm2⟩:∃ m:Nat,mvS v up inn=(m:Int)∧m<256:=⟨(mvS v up inn).toNat,by omega,by omega⟩
  rw [hm] at f2 ⊢
  simp only [Int.toNat_natCast] at f2
  unfold ref03_move.L0.F
  refine (congrArg (iterU _) ?_).trans (iterU_range (fun i:Nat=>((v,up,inn,((m%2 ^ i:Nat):Int),(i:Int),()),(),())) _ 8 ?_ ?_ 0 (by omega))
  ·rw [Nat.pow_zero,Nat.mod_one];rfl
  ·intro i hi
   unfold ref03_move.L0.step
   dsimp only
   have g:(i:Int)<8:=by omega
   have hlt:m%2 ^ i<256:=Nat.lt_of_le_of_lt (Nat.mod_le _ _) hm2
   have hput:∀ on,ref01_Put.F (((m%2 ^ i:Nat):Int),(i:Int),on,())=some (putS ((m%2 ^ i:Nat):Int) i on,()):=fun on=>rput_spec i hi ⟨by omega,by omega⟩ on
   have hl:=put_low hm2 hi
   have ft:=f2 ⟨i,hi⟩
   simp only at ft
   rw [ft] at hl
   rw [if_pos (decide_eq_true g),w64 (n:=(i:Int)+1) (by omega),w64 (n:=(i:Int) - 1) (by omega)]
   rw [show ((i+1:Nat):Int)=(i:Int)+1 by omega,← hl]
   cases up
   ·simp only [Bool.false_eq_true,if_false]
    have g1:(i:Int)+1≥0:=by omega
    rw [if_pos (by simp [g1])]
    by_cases q:i=7
    ·have g2:¬(i:Int)+1<8:=by omega
     rw [if_neg (by simp [g2]),if_pos q,hput]
     rfl
    ·have g2:(i:Int)+1<8:=by omega
     have hb:=rbit_spec (v:=v) (i+1) (by omega) hv
     rw [show ((i+1:Nat):Int)=(i:Int)+1 by omega] at hb
     rw [if_pos (by simp [g2]),if_neg q,hb]
     simp only [Option.bind_some]
     rw [hput]
     rfl
   ·simp only [if_true]
    by_cases q:i=0
    ·have g1:¬(i:Int) - 1≥0:=by omega
     rw [if_neg (by simp;omega),if_pos q,hput]
     rfl
    ·have g1:(i:Int) - 1≥0:=by omega
     have g2:(i:Int) - 1<8:=by omega
     have hb:=rbit_spec (v:=v) (i - 1) (by omega) hv
     rw [show ((i - 1:Nat):Int)=(i:Int) - 1 by omega] at hb
     rw [if_pos (by simp;omega),if_pos (by simp [g2]),if_neg q,hb]
     simp only [Option.bind_some]
     rw [hput]
     rfl
  ·unfold ref03_move.L0.step
   simp [Nat.mod_eq_of_lt hm2]
 rw [h]
 rfl
def outS (op:Nat) (v:Int):Bool:=if op=0∨op=2∨op=4 then bitB v 7 else if op=6 then false else bitB v 0
def inS (op:Nat) (v:Int) (c:Bool):Bool:=if op=0∨op=5 then bitB v 7 else if op=1 then bitB v 0 else if op=2∨op=3 then c else false
def shV (op:Nat) (v:Int) (c:Bool):Int:=if op=6 then v%16*16+v / 16 else mvS v (decide (op=0∨op=2∨op=4)) (inS op v c)
def shS (op:Nat) (v:Int) (f:FL):Int×FL:=(shV op v f.2.2.2,(decide (shV op v f.2.2.2=0),false,false,outS op v))
theorem sh_fin:∀ op:Fin 8,∀ v:Fin 256,∀ c:Bool,chk (shift_Do.F ((op.val:Int),(v.val:Int),(false,false,false,c),())) (shS op.val (v.val:Int) (false,false,false,c))=true∧0≤shV op.val (v.val:Int) c∧shV op.val (v.val:Int) c≤255:=by decide +kernel
theorem sh_spec {op:Nat} (ho:op<8) {v:Int} (hv:byte v) (f:FL):shift_Do.F ((op:Int),v,f,())=some ((shS op v f).1,(shS op v f).2,()):=by
 have v0:=hv.1
 have v1:=hv.2
 have hf:=chk_eq (sh_fin ⟨op,ho⟩ ⟨v.toNat,by omega⟩ f.2.2.2).1
 simp only [Int.toNat_of_nonneg v0] at hf
 exact hf
theorem shV_byte {op:Nat} (ho:op<8) {v:Int} (hv:byte v) (c:Bool):byte (shV op v c):=by
 have v0:=hv.1
 have v1:=hv.2
 have hf:=(sh_fin ⟨op,ho⟩ ⟨v.toNat,by omega⟩ c).2
 simp only [Int.toNat_of_nonneg v0] at hf
 exact hf
theorem rsh_spec {op:Nat} (ho:op<8) {v:Int} (hv:byte v) (f:FL):ref03_Do.F ((op:Int),v,f,())=some ((shS op v f).1,(shS op v f).2,()):=by
 have v0:=hv.1
 have v1:=hv.2
 have e0:ref01_Bit.F (v,0,())=some (bitB v 0,()):=rbit_spec 0 (by omega) hv
 have e7:ref01_Bit.F (v,7,())=some (bitB v 7,()):=rbit_spec 7 (by omega) hv
 obtain ⟨fz,fn,fh,fc⟩:=f
 unfold ref03_Do.F ref03_Do.G
 dsimp only
 rw [rop_spec ho]
 simp only [Option.bind_some,e0,e7,move_spec hv]
 have:op=0∨op=1∨op=2∨op=3∨op=4∨op=5∨op=6∨op=7:=by omega
 rcases this with rfl | rfl | rfl | rfl | rfl | rfl | rfl | rfl
 ·simp [shS,shV,outS,inS,beq0]
 ·simp [shS,shV,outS,inS,beq0]
 ·simp [shS,shV,outS,inS,beq0]
 ·simp [shS,shV,outS,inS,beq0]
 ·simp [shS,shV,outS,inS,beq0]
 ·simp [shS,shV,outS,inS,beq0]
 ·rw [w64 (n:=v) (by omega),tmodN v0,tdivN v0,w64 (n:=v%16*16) (by omega),w64 (n:=v / 16) (by omega),w64 (n:=v%16*16+v / 16) (by omega),w8 (by omega)]
  simp [shS,shV,outS,beq0]
 ·simp [shS,shV,outS,inS,beq0]
def fastS (op:Nat) (v:Int) (f:FL):Int×FL:=((shS op v f).1,(false,(shS op v f).2.2))
theorem op3_fin:∀ n:Fin 4,bits .and .i64 (n.val:Int) 3=(n.val:Int):=by decide +kernel
theorem fast_spec {op:Nat} (ho:op<4) {v:Int} (hv:byte v) (f:FL):shift_Fast.F ((op:Int),v,f,())=some ((fastS op v f).1,(fastS op v f).2,()):=by
 unfold shift_Fast.F shift_Fast.G fastS
 dsimp only
 rw [op3_fin ⟨op,ho⟩,sh_spec (by omega) hv]
 rfl
theorem rfast_spec {op:Nat} (ho:op<4) {v:Int} (hv:byte v) (f:FL):ref03_Fast.F ((op:Int),v,f,())=some ((fastS op v f).1,(fastS op v f).2,()):=by
 unfold ref03_Fast.F ref03_Fast.G fastS
 dsimp only
 rw [rop_spec (by omega)]
 simp only [Option.bind_some]
 rw [tmodN (by omega),Int.emod_eq_of_lt (by omega) (by omega),rsh_spec (by omega) hv]
 rfl
def testS (n:Nat) (v:Int) (f:FL):FL:=(!bitB v n,false,true,f.2.2.2)
theorem test_spec {n:Nat} (hn:n<8) {v:Int} (hv:byte v) (f:FL):shift_Test.F ((n:Int),v,f,())=some (testS n v f,()):=by
 unfold shift_Test.F shift_Test.G testS
 dsimp only
 have g0:(n:Int)≥0:=by omega
 have g1:(n:Int)<8:=by omega
 have g2:¬(n:Int)<0:=by omega
 rw [op7_fin ⟨n,hn⟩]
 simp only [g0,g1,g2,decide_true,decide_false,beq_self_eq_true,if_true,Bool.not_false,Int.toNat_natCast]
 rw [Nat.min_eq_left (by omega),fdivN (Int.le_of_lt (Int.pow_pos (by omega))),bit_u8 hv.1 (by have:=hv.2;omega)]
 rfl
theorem rtest_spec {n:Nat} (hn:n<8) {v:Int} (hv:byte v) (f:FL):ref03_Test.F ((n:Int),v,f,())=some (testS n v f,()):=by
 unfold ref03_Test.F ref03_Test.G testS
 dsimp only
 rw [rop_spec hn]
 simp only [Option.bind_some]
 rw [rbit_spec n hn hv]
 rfl
theorem res_spec {n:Nat} (hn:n<8) {v:Int} (hv:byte v):shift_Res.F ((n:Int),v,())=some (putS v n false,()):=by
 unfold shift_Res.F shift_Res.G
 dsimp only
 rw [op7_fin ⟨n,hn⟩,wput_spec n hn hv]
 rfl
theorem set_spec {n:Nat} (hn:n<8) {v:Int} (hv:byte v):shift_Set.F ((n:Int),v,())=some (putS v n true,()):=by
 unfold shift_Set.F shift_Set.G
 dsimp only
 rw [op7_fin ⟨n,hn⟩,wput_spec n hn hv]
 rfl
theorem rres_spec {n:Nat} (hn:n<8) {v:Int} (hv:byte v):ref03_Res.F ((n:Int),v,())=some (putS v n false,()):=by
 unfold ref03_Res.F ref03_Res.G
 dsimp only
 rw [rop_spec hn]
 simp only [Option.bind_some]
 rw [rput_spec n hn hv]
 rfl
theorem rset_spec {n:Nat} (hn:n<8) {v:Int} (hv:byte v):ref03_Set.F ((n:Int),v,())=some (putS v n true,()):=by
 unfold ref03_Set.F ref03_Set.G
 dsimp only
 rw [rop_spec hn]
 simp only [Option.bind_some]
 rw [rput_spec n hn hv]
 rfl
end Go.Proofs.YtmhkjafcfpgikaaGreat.E
