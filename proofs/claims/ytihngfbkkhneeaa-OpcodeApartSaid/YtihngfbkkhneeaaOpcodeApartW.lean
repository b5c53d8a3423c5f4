/- The law OpcodeApart comes to true at any two opcodes. Conditions: none. -/
import Derived.Test.YtihngfbkkhneeaaKnown6
namespace Go.Proofs.Ytihngfbkkhneeaa.E
open Go Go.Ev Go.RowKit
set_option linter.unusedVariables false
set_option linter.unusedSimpArgs false
set_option maxRecDepth 100000
noncomputable def tblL : FuncId → Option Func
  | 7 => some Go.Proofs.Try.f7
  | _ => none
theorem tblL_ok : TblOK Go.Proofs.Try.prog tblL := by
  intro g fn h
  unfold tblL at h
  split at h
  · simp only [Option.some.injEq] at h; subst h; exact ⟨Go.Proofs.Try.func7, by kernel_rfl⟩
  · simp at h

def eq6 (q r : Q6) : Bool := (q.1 == r.1 && (q.2.1 == r.2.1 && (q.2.2.1 == r.2.2.1 && (q.2.2.2.1 == r.2.2.2.1 && (q.2.2.2.2.1 == r.2.2.2.2.1 && (q.2.2.2.2.2 == r.2.2.2.2.2 && true))))))
noncomputable def apR (DF DCF : Int → Option Q6) (a b : Int) (S z : Bool) : Option Unit :=
  if ((S == z) == true) = true then asks (DCF a) (0, 0, 0, 0, 0, 0) fun ca => asks (DCF b) (0, 0, 0, 0, 0, 0) fun cb => if ((eq6 ca cb == (a == b)) == true) = true then asks (DF a) (0, 0, 0, 0, 0, 0) fun qa => asks (DCF b) (0, 0, 0, 0, 0, 0) fun cb => if (!eq6 qa cb) = true then some () else none else none else none
noncomputable def apX (DF DCF : Int → Option Q6) (a b : Int) (S both : Bool) : Option Unit := if ((a == b) == false) = true then apR DF DCF a b S both else apR DF DCF a b S true
noncomputable def apL (DF DCF : Int → Option Q6) (IF : Int → Option Bool) (a b : Int) : Option Unit :=
  asks (DF a) (0, 0, 0, 0, 0, 0) fun qa => asks (DF b) (0, 0, 0, 0, 0, 0) fun qb => asks (IF a) false fun ia => if (ia == true) = true then asks (IF b) false fun ib => apX DF DCF a b (eq6 qa qb) ib else apX DF DCF a b (eq6 qa qb) false
theorem ap_eq (DF DCF : Int → Option Q6) (IF : Int → Option Bool) (a b : Int) : evCall Go.Proofs.Try.prog tblL (known (knA DF DCF IF)) 300 3 7 [u8A a, u8A b] [] isTrue = apL DF DCF IF a b := by kernel_rfl
structure Opc where
  m : Nat
  d : Q6
  c : Q6
  i : Bool
/-- all opcodes: what each says, what it says behind the prefix, and whether it is illegal -/
def opcs : List Opc := [⟨0, (0, 0, 0, 1, 1, 1), (43, 0, 0, 2, 2, 2), false⟩, ⟨1, (17, 0, 0, 3, 3, 3), (43, 0, 1, 2, 2, 2), false⟩, ⟨2, (10, 0, 0, 1, 2, 2), (43, 0, 2, 2, 2, 2), false⟩, ⟨3, (27, 0, 0, 1, 2, 2), (43, 0, 3, 2, 2, 2), false⟩, ⟨4, (25, 0, 0, 1, 1, 1), (43, 0, 4, 2, 2, 2), false⟩, ⟨5, (26, 0, 0, 1, 1, 1), (43, 0, 5, 2, 2, 2), false⟩, ⟨6, (8, 0, 0, 2, 2, 2), (43, 0, 6, 2, 4, 4), false⟩, ⟨7, (31, 0, 0, 1, 1, 1), (43, 0, 7, 2, 2, 2), false⟩, ⟨8, (18, 0, 0, 3, 5, 5), (43, 1, 0, 2, 2, 2), false⟩, ⟨9, (29, 0, 0, 1, 2, 2), (43, 1, 1, 2, 2, 2), false⟩, ⟨10, (9, 0, 0, 1, 2, 2), (43, 1, 2, 2, 2, 2), false⟩, ⟨11, (28, 0, 0, 1, 2, 2), (43, 1, 3, 2, 2, 2), false⟩, ⟨12, (25, 1, 0, 1, 1, 1), (43, 1, 4, 2, 2, 2), false⟩, ⟨13, (26, 1, 0, 1, 1, 1), (43, 1, 5, 2, 2, 2), false⟩, ⟨14, (8, 1, 0, 2, 2, 2), (43, 1, 6, 2, 4, 4), false⟩, ⟨15, (31, 1, 0, 1, 1, 1), (43, 1, 7, 2, 2, 2), false⟩, ⟨16, (1, 0, 0, 2, 2, 2), (43, 2, 0, 2, 2, 2), false⟩, ⟨17, (17, 1, 0, 3, 3, 3), (43, 2, 1, 2, 2, 2), false⟩, ⟨18, (10, 1, 0, 1, 2, 2), (43, 2, 2, 2, 2, 2), false⟩, ⟨19, (27, 1, 0, 1, 2, 2), (43, 2, 3, 2, 2, 2), false⟩, ⟨20, (25, 2, 0, 1, 1, 1), (43, 2, 4, 2, 2, 2), false⟩, ⟨21, (26, 2, 0, 1, 1, 1), (43, 2, 5, 2, 2, 2), false⟩, ⟨22, (8, 2, 0, 2, 2, 2), (43, 2, 6, 2, 4, 4), false⟩, ⟨23, (31, 2, 0, 1, 1, 1), (43, 2, 7, 2, 2, 2), false⟩, ⟨24, (36, 4, 0, 2, 3, 3), (43, 3, 0, 2, 2, 2), false⟩, ⟨25, (29, 1, 0, 1, 2, 2), (43, 3, 1, 2, 2, 2), false⟩, ⟨26, (9, 1, 0, 1, 2, 2), (43, 3, 2, 2, 2, 2), false⟩, ⟨27, (28, 1, 0, 1, 2, 2), (43, 3, 3, 2, 2, 2), false⟩, ⟨28, (25, 3, 0, 1, 1, 1), (43, 3, 4, 2, 2, 2), false⟩, ⟨29, (26, 3, 0, 1, 1, 1), (43, 3, 5, 2, 2, 2), false⟩, ⟨30, (8, 3, 0, 2, 2, 2), (43, 3, 6, 2, 4, 4), false⟩, ⟨31, (31, 3, 0, 1, 1, 1), (43, 3, 7, 2, 2, 2), false⟩, ⟨32, (36, 0, 0, 2, 2, 3), (43, 4, 0, 2, 2, 2), false⟩, ⟨33, (17, 2, 0, 3, 3, 3), (43, 4, 1, 2, 2, 2), false⟩, ⟨34, (10, 2, 0, 1, 2, 2), (43, 4, 2, 2, 2, 2), false⟩, ⟨35, (27, 2, 0, 1, 2, 2), (43, 4, 3, 2, 2, 2), false⟩, ⟨36, (25, 4, 0, 1, 1, 1), (43, 4, 4, 2, 2, 2), false⟩, ⟨37, (26, 4, 0, 1, 1, 1), (43, 4, 5, 2, 2, 2), false⟩, ⟨38, (8, 4, 0, 2, 2, 2), (43, 4, 6, 2, 4, 4), false⟩, ⟨39, (32, 0, 0, 1, 1, 1), (43, 4, 7, 2, 2, 2), false⟩, ⟨40, (36, 1, 0, 2, 2, 3), (43, 5, 0, 2, 2, 2), false⟩, ⟨41, (29, 2, 0, 1, 2, 2), (43, 5, 1, 2, 2, 2), false⟩, ⟨42, (9, 2, 0, 1, 2, 2), (43, 5, 2, 2, 2, 2), false⟩, ⟨43, (28, 2, 0, 1, 2, 2), (43, 5, 3, 2, 2, 2), false⟩, ⟨44, (25, 5, 0, 1, 1, 1), (43, 5, 4, 2, 2, 2), false⟩, ⟨45, (26, 5, 0, 1, 1, 1), (43, 5, 5, 2, 2, 2), false⟩, ⟨46, (8, 5, 0, 2, 2, 2), (43, 5, 6, 2, 4, 4), false⟩, ⟨47, (33, 0, 0, 1, 1, 1), (43, 5, 7, 2, 2, 2), false⟩, ⟨48, (36, 2, 0, 2, 2, 3), (43, 6, 0, 2, 2, 2), false⟩, ⟨49, (17, 3, 0, 3, 3, 3), (43, 6, 1, 2, 2, 2), false⟩, ⟨50, (10, 3, 0, 1, 2, 2), (43, 6, 2, 2, 2, 2), false⟩, ⟨51, (27, 3, 0, 1, 2, 2), (43, 6, 3, 2, 2, 2), false⟩, ⟨52, (25, 6, 0, 1, 3, 3), (43, 6, 4, 2, 2, 2), false⟩, ⟨53, (26, 6, 0, 1, 3, 3), (43, 6, 5, 2, 2, 2), false⟩, ⟨54, (8, 6, 0, 2, 3, 3), (43, 6, 6, 2, 4, 4), false⟩, ⟨55, (34, 0, 0, 1, 1, 1), (43, 6, 7, 2, 2, 2), false⟩, ⟨56, (36, 3, 0, 2, 2, 3), (43, 7, 0, 2, 2, 2), false⟩, ⟨57, (29, 3, 0, 1, 2, 2), (43, 7, 1, 2, 2, 2), false⟩, ⟨58, (9, 3, 0, 1, 2, 2), (43, 7, 2, 2, 2, 2), false⟩, ⟨59, (28, 3, 0, 1, 2, 2), (43, 7, 3, 2, 2, 2), false⟩, ⟨60, (25, 7, 0, 1, 1, 1), (43, 7, 4, 2, 2, 2), false⟩, ⟨61, (26, 7, 0, 1, 1, 1), (43, 7, 5, 2, 2, 2), false⟩, ⟨62, (8, 7, 0, 2, 2, 2), (43, 7, 6, 2, 4, 4), false⟩, ⟨63, (35, 0, 0, 1, 1, 1), (43, 7, 7, 2, 2, 2), false⟩, ⟨64, (7, 0, 0, 1, 1, 1), (44, 0, 0, 2, 2, 2), false⟩, ⟨65, (7, 0, 1, 1, 1, 1), (44, 0, 1, 2, 2, 2), false⟩, ⟨66, (7, 0, 2, 1, 1, 1), (44, 0, 2, 2, 2, 2), false⟩, ⟨67, (7, 0, 3, 1, 1, 1), (44, 0, 3, 2, 2, 2), false⟩, ⟨68, (7, 0, 4, 1, 1, 1), (44, 0, 4, 2, 2, 2), false⟩, ⟨69, (7, 0, 5, 1, 1, 1), (44, 0, 5, 2, 2, 2), false⟩, ⟨70, (7, 0, 6, 1, 2, 2), (44, 0, 6, 2, 3, 3), false⟩, ⟨71, (7, 0, 7, 1, 1, 1), (44, 0, 7, 2, 2, 2), false⟩, ⟨72, (7, 1, 0, 1, 1, 1), (44, 1, 0, 2, 2, 2), false⟩, ⟨73, (7, 1, 1, 1, 1, 1), (44, 1, 1, 2, 2, 2), false⟩, ⟨74, (7, 1, 2, 1, 1, 1), (44, 1, 2, 2, 2, 2), false⟩, ⟨75, (7, 1, 3, 1, 1, 1), (44, 1, 3, 2, 2, 2), false⟩, ⟨76, (7, 1, 4, 1, 1, 1), (44, 1, 4, 2, 2, 2), false⟩, ⟨77, (7, 1, 5, 1, 1, 1), (44, 1, 5, 2, 2, 2), false⟩, ⟨78, (7, 1, 6, 1, 2, 2), (44, 1, 6, 2, 3, 3), false⟩, ⟨79, (7, 1, 7, 1, 1, 1), (44, 1, 7, 2, 2, 2), false⟩, ⟨80, (7, 2, 0, 1, 1, 1), (44, 2, 0, 2, 2, 2), false⟩, ⟨81, (7, 2, 1, 1, 1, 1), (44, 2, 1, 2, 2, 2), false⟩, ⟨82, (7, 2, 2, 1, 1, 1), (44, 2, 2, 2, 2, 2), false⟩, ⟨83, (7, 2, 3, 1, 1, 1), (44, 2, 3, 2, 2, 2), false⟩, ⟨84, (7, 2, 4, 1, 1, 1), (44, 2, 4, 2, 2, 2), false⟩, ⟨85, (7, 2, 5, 1, 1, 1), (44, 2, 5, 2, 2, 2), false⟩, ⟨86, (7, 2, 6, 1, 2, 2), (44, 2, 6, 2, 3, 3), false⟩, ⟨87, (7, 2, 7, 1, 1, 1), (44, 2, 7, 2, 2, 2), false⟩, ⟨88, (7, 3, 0, 1, 1, 1), (44, 3, 0, 2, 2, 2), false⟩, ⟨89, (7, 3, 1, 1, 1, 1), (44, 3, 1, 2, 2, 2), false⟩, ⟨90, (7, 3, 2, 1, 1, 1), (44, 3, 2, 2, 2, 2), false⟩, ⟨91, (7, 3, 3, 1, 1, 1), (44, 3, 3, 2, 2, 2), false⟩, ⟨92, (7, 3, 4, 1, 1, 1), (44, 3, 4, 2, 2, 2), false⟩, ⟨93, (7, 3, 5, 1, 1, 1), (44, 3, 5, 2, 2, 2), false⟩, ⟨94, (7, 3, 6, 1, 2, 2), (44, 3, 6, 2, 3, 3), false⟩, ⟨95, (7, 3, 7, 1, 1, 1), (44, 3, 7, 2, 2, 2), false⟩, ⟨96, (7, 4, 0, 1, 1, 1), (44, 4, 0, 2, 2, 2), false⟩, ⟨97, (7, 4, 1, 1, 1, 1), (44, 4, 1, 2, 2, 2), false⟩, ⟨98, (7, 4, 2, 1, 1, 1), (44, 4, 2, 2, 2, 2), false⟩, ⟨99, (7, 4, 3, 1, 1, 1), (44, 4, 3, 2, 2, 2), false⟩, ⟨100, (7, 4, 4, 1, 1, 1), (44, 4, 4, 2, 2, 2), false⟩, ⟨101, (7, 4, 5, 1, 1, 1), (44, 4, 5, 2, 2, 2), false⟩, ⟨102, (7, 4, 6, 1, 2, 2), (44, 4, 6, 2, 3, 3), false⟩, ⟨103, (7, 4, 7, 1, 1, 1), (44, 4, 7, 2, 2, 2), false⟩, ⟨104, (7, 5, 0, 1, 1, 1), (44, 5, 0, 2, 2, 2), false⟩, ⟨105, (7, 5, 1, 1, 1, 1), (44, 5, 1, 2, 2, 2), false⟩, ⟨106, (7, 5, 2, 1, 1, 1), (44, 5, 2, 2, 2, 2), false⟩, ⟨107, (7, 5, 3, 1, 1, 1), (44, 5, 3, 2, 2, 2), false⟩, ⟨108, (7, 5, 4, 1, 1, 1), (44, 5, 4, 2, 2, 2), false⟩, ⟨109, (7, 5, 5, 1, 1, 1), (44, 5, 5, 2, 2, 2), false⟩, ⟨110, (7, 5, 6, 1, 2, 2), (44, 5, 6, 2, 3, 3), false⟩, ⟨111, (7, 5, 7, 1, 1, 1), (44, 5, 7, 2, 2, 2), false⟩, ⟨112, (7, 6, 0, 1, 2, 2), (44, 6, 0, 2, 2, 2), false⟩, ⟨113, (7, 6, 1, 1, 2, 2), (44, 6, 1, 2, 2, 2), false⟩, ⟨114, (7, 6, 2, 1, 2, 2), (44, 6, 2, 2, 2, 2), false⟩, ⟨115, (7, 6, 3, 1, 2, 2), (44, 6, 3, 2, 2, 2), false⟩, ⟨116, (7, 6, 4, 1, 2, 2), (44, 6, 4, 2, 2, 2), false⟩, ⟨117, (7, 6, 5, 1, 2, 2), (44, 6, 5, 2, 2, 2), false⟩, ⟨118, (2, 0, 0, 1, 1, 1), (44, 6, 6, 2, 3, 3), false⟩, ⟨119, (7, 6, 7, 1, 2, 2), (44, 6, 7, 2, 2, 2), false⟩, ⟨120, (7, 7, 0, 1, 1, 1), (44, 7, 0, 2, 2, 2), false⟩, ⟨121, (7, 7, 1, 1, 1, 1), (44, 7, 1, 2, 2, 2), false⟩, ⟨122, (7, 7, 2, 1, 1, 1), (44, 7, 2, 2, 2, 2), false⟩, ⟨123, (7, 7, 3, 1, 1, 1), (44, 7, 3, 2, 2, 2), false⟩, ⟨124, (7, 7, 4, 1, 1, 1), (44, 7, 4, 2, 2, 2), false⟩, ⟨125, (7, 7, 5, 1, 1, 1), (44, 7, 5, 2, 2, 2), false⟩, ⟨126, (7, 7, 6, 1, 2, 2), (44, 7, 6, 2, 3, 3), false⟩, ⟨127, (7, 7, 7, 1, 1, 1), (44, 7, 7, 2, 2, 2), false⟩, ⟨128, (23, 0, 0, 1, 1, 1), (45, 0, 0, 2, 2, 2), false⟩, ⟨129, (23, 0, 1, 1, 1, 1), (45, 0, 1, 2, 2, 2), false⟩, ⟨130, (23, 0, 2, 1, 1, 1), (45, 0, 2, 2, 2, 2), false⟩, ⟨131, (23, 0, 3, 1, 1, 1), (45, 0, 3, 2, 2, 2), false⟩, ⟨132, (23, 0, 4, 1, 1, 1), (45, 0, 4, 2, 2, 2), false⟩, ⟨133, (23, 0, 5, 1, 1, 1), (45, 0, 5, 2, 2, 2), false⟩, ⟨134, (23, 0, 6, 1, 2, 2), (45, 0, 6, 2, 4, 4), false⟩, ⟨135, (23, 0, 7, 1, 1, 1), (45, 0, 7, 2, 2, 2), false⟩, ⟨136, (23, 1, 0, 1, 1, 1), (45, 1, 0, 2, 2, 2), false⟩, ⟨137, (23, 1, 1, 1, 1, 1), (45, 1, 1, 2, 2, 2), false⟩, ⟨138, (23, 1, 2, 1, 1, 1), (45, 1, 2, 2, 2, 2), false⟩, ⟨139, (23, 1, 3, 1, 1, 1), (45, 1, 3, 2, 2, 2), false⟩, ⟨140, (23, 1, 4, 1, 1, 1), (45, 1, 4, 2, 2, 2), false⟩, ⟨141, (23, 1, 5, 1, 1, 1), (45, 1, 5, 2, 2, 2), false⟩, ⟨142, (23, 1, 6, 1, 2, 2), (45, 1, 6, 2, 4, 4), false⟩, ⟨143, (23, 1, 7, 1, 1, 1), (45, 1, 7, 2, 2, 2), false⟩, ⟨144, (23, 2, 0, 1, 1, 1), (45, 2, 0, 2, 2, 2), false⟩, ⟨145, (23, 2, 1, 1, 1, 1), (45, 2, 1, 2, 2, 2), false⟩, ⟨146, (23, 2, 2, 1, 1, 1), (45, 2, 2, 2, 2, 2), false⟩, ⟨147, (23, 2, 3, 1, 1, 1), (45, 2, 3, 2, 2, 2), false⟩, ⟨148, (23, 2, 4, 1, 1, 1), (45, 2, 4, 2, 2, 2), false⟩, ⟨149, (23, 2, 5, 1, 1, 1), (45, 2, 5, 2, 2, 2), false⟩, ⟨150, (23, 2, 6, 1, 2, 2), (45, 2, 6, 2, 4, 4), false⟩, ⟨151, (23, 2, 7, 1, 1, 1), (45, 2, 7, 2, 2, 2), false⟩, ⟨152, (23, 3, 0, 1, 1, 1), (45, 3, 0, 2, 2, 2), false⟩, ⟨153, (23, 3, 1, 1, 1, 1), (45, 3, 1, 2, 2, 2), false⟩, ⟨154, (23, 3, 2, 1, 1, 1), (45, 3, 2, 2, 2, 2), false⟩, ⟨155, (23, 3, 3, 1, 1, 1), (45, 3, 3, 2, 2, 2), false⟩, ⟨156, (23, 3, 4, 1, 1, 1), (45, 3, 4, 2, 2, 2), false⟩, ⟨157, (23, 3, 5, 1, 1, 1), (45, 3, 5, 2, 2, 2), false⟩, ⟨158, (23, 3, 6, 1, 2, 2), (45, 3, 6, 2, 4, 4), false⟩, ⟨159, (23, 3, 7, 1, 1, 1), (45, 3, 7, 2, 2, 2), false⟩, ⟨160, (23, 4, 0, 1, 1, 1), (45, 4, 0, 2, 2, 2), false⟩, ⟨161, (23, 4, 1, 1, 1, 1), (45, 4, 1, 2, 2, 2), false⟩, ⟨162, (23, 4, 2, 1, 1, 1), (45, 4, 2, 2, 2, 2), false⟩, ⟨163, (23, 4, 3, 1, 1, 1), (45, 4, 3, 2, 2, 2), false⟩, ⟨164, (23, 4, 4, 1, 1, 1), (45, 4, 4, 2, 2, 2), false⟩, ⟨165, (23, 4, 5, 1, 1, 1), (45, 4, 5, 2, 2, 2), false⟩, ⟨166, (23, 4, 6, 1, 2, 2), (45, 4, 6, 2, 4, 4), false⟩, ⟨167, (23, 4, 7, 1, 1, 1), (45, 4, 7, 2, 2, 2), false⟩, ⟨168, (23, 5, 0, 1, 1, 1), (45, 5, 0, 2, 2, 2), false⟩, ⟨169, (23, 5, 1, 1, 1, 1), (45, 5, 1, 2, 2, 2), false⟩, ⟨170, (23, 5, 2, 1, 1, 1), (45, 5, 2, 2, 2, 2), false⟩, ⟨171, (23, 5, 3, 1, 1, 1), (45, 5, 3, 2, 2, 2), false⟩, ⟨172, (23, 5, 4, 1, 1, 1), (45, 5, 4, 2, 2, 2), false⟩, ⟨173, (23, 5, 5, 1, 1, 1), (45, 5, 5, 2, 2, 2), false⟩, ⟨174, (23, 5, 6, 1, 2, 2), (45, 5, 6, 2, 4, 4), false⟩, ⟨175, (23, 5, 7, 1, 1, 1), (45, 5, 7, 2, 2, 2), false⟩, ⟨176, (23, 6, 0, 1, 1, 1), (45, 6, 0, 2, 2, 2), false⟩, ⟨177, (23, 6, 1, 1, 1, 1), (45, 6, 1, 2, 2, 2), false⟩, ⟨178, (23, 6, 2, 1, 1, 1), (45, 6, 2, 2, 2, 2), false⟩, ⟨179, (23, 6, 3, 1, 1, 1), (45, 6, 3, 2, 2, 2), false⟩, ⟨180, (23, 6, 4, 1, 1, 1), (45, 6, 4, 2, 2, 2), false⟩, ⟨181, (23, 6, 5, 1, 1, 1), (45, 6, 5, 2, 2, 2), false⟩, ⟨182, (23, 6, 6, 1, 2, 2), (45, 6, 6, 2, 4, 4), false⟩, ⟨183, (23, 6, 7, 1, 1, 1), (45, 6, 7, 2, 2, 2), false⟩, ⟨184, (23, 7, 0, 1, 1, 1), (45, 7, 0, 2, 2, 2), false⟩, ⟨185, (23, 7, 1, 1, 1, 1), (45, 7, 1, 2, 2, 2), false⟩, ⟨186, (23, 7, 2, 1, 1, 1), (45, 7, 2, 2, 2, 2), false⟩, ⟨187, (23, 7, 3, 1, 1, 1), (45, 7, 3, 2, 2, 2), false⟩, ⟨188, (23, 7, 4, 1, 1, 1), (45, 7, 4, 2, 2, 2), false⟩, ⟨189, (23, 7, 5, 1, 1, 1), (45, 7, 5, 2, 2, 2), false⟩, ⟨190, (23, 7, 6, 1, 2, 2), (45, 7, 6, 2, 4, 4), false⟩, ⟨191, (23, 7, 7, 1, 1, 1), (45, 7, 7, 2, 2, 2), false⟩, ⟨192, (40, 0, 0, 1, 2, 5), (46, 0, 0, 2, 2, 2), false⟩, ⟨193, (22, 0, 0, 1, 3, 3), (46, 0, 1, 2, 2, 2), false⟩, ⟨194, (37, 0, 0, 3, 3, 4), (46, 0, 2, 2, 2, 2), false⟩, ⟨195, (37, 4, 0, 3, 4, 4), (46, 0, 3, 2, 2, 2), false⟩, ⟨196, (39, 0, 0, 3, 3, 6), (46, 0, 4, 2, 2, 2), false⟩, ⟨197, (21, 0, 0, 1, 4, 4), (46, 0, 5, 2, 2, 2), false⟩, ⟨198, (24, 0, 0, 2, 2, 2), (46, 0, 6, 2, 4, 4), false⟩, ⟨199, (42, 0, 0, 1, 4, 4), (46, 0, 7, 2, 2, 2), false⟩, ⟨200, (40, 1, 0, 1, 2, 5), (46, 1, 0, 2, 2, 2), false⟩, ⟨201, (40, 4, 0, 1, 4, 4), (46, 1, 1, 2, 2, 2), false⟩, ⟨202, (37, 1, 0, 3, 3, 4), (46, 1, 2, 2, 2, 2), false⟩, ⟨203, (6, 0, 0, 1, 1, 1), (46, 1, 3, 2, 2, 2), false⟩, ⟨204, (39, 1, 0, 3, 3, 6), (46, 1, 4, 2, 2, 2), false⟩, ⟨205, (39, 4, 0, 3, 6, 6), (46, 1, 5, 2, 2, 2), false⟩, ⟨206, (24, 1, 0, 2, 2, 2), (46, 1, 6, 2, 4, 4), false⟩, ⟨207, (42, 1, 0, 1, 4, 4), (46, 1, 7, 2, 2, 2), false⟩, ⟨208, (40, 2, 0, 1, 2, 5), (46, 2, 0, 2, 2, 2), false⟩, ⟨209, (22, 1, 0, 1, 3, 3), (46, 2, 1, 2, 2, 2), false⟩, ⟨210, (37, 2, 0, 3, 3, 4), (46, 2, 2, 2, 2, 2), false⟩, ⟨211, (5, 0, 0, 1, 1, 1), (46, 2, 3, 2, 2, 2), true⟩, ⟨212, (39, 2, 0, 3, 3, 6), (46, 2, 4, 2, 2, 2), false⟩, ⟨213, (21, 1, 0, 1, 4, 4), (46, 2, 5, 2, 2, 2), false⟩, ⟨214, (24, 2, 0, 2, 2, 2), (46, 2, 6, 2, 4, 4), false⟩, ⟨215, (42, 2, 0, 1, 4, 4), (46, 2, 7, 2, 2, 2), false⟩, ⟨216, (40, 3, 0, 1, 2, 5), (46, 3, 0, 2, 2, 2), false⟩, ⟨217, (41, 0, 0, 1, 4, 4), (46, 3, 1, 2, 2, 2), false⟩, ⟨218, (37, 3, 0, 3, 3, 4), (46, 3, 2, 2, 2, 2), false⟩, ⟨219, (5, 0, 0, 1, 1, 1), (46, 3, 3, 2, 2, 2), true⟩, ⟨220, (39, 3, 0, 3, 3, 6), (46, 3, 4, 2, 2, 2), false⟩, ⟨221, (5, 0, 0, 1, 1, 1), (46, 3, 5, 2, 2, 2), true⟩, ⟨222, (24, 3, 0, 2, 2, 2), (46, 3, 6, 2, 4, 4), false⟩, ⟨223, (42, 3, 0, 1, 4, 4), (46, 3, 7, 2, 2, 2), false⟩, ⟨224, (12, 0, 0, 2, 3, 3), (46, 4, 0, 2, 2, 2), false⟩, ⟨225, (22, 2, 0, 1, 3, 3), (46, 4, 1, 2, 2, 2), false⟩, ⟨226, (14, 0, 0, 1, 2, 2), (46, 4, 2, 2, 2, 2), false⟩, ⟨227, (5, 0, 0, 1, 1, 1), (46, 4, 3, 2, 2, 2), true⟩, ⟨228, (5, 0, 0, 1, 1, 1), (46, 4, 4, 2, 2, 2), true⟩, ⟨229, (21, 2, 0, 1, 4, 4), (46, 4, 5, 2, 2, 2), false⟩, ⟨230, (24, 4, 0, 2, 2, 2), (46, 4, 6, 2, 4, 4), false⟩, ⟨231, (42, 4, 0, 1, 4, 4), (46, 4, 7, 2, 2, 2), false⟩, ⟨232, (30, 0, 0, 2, 4, 4), (46, 5, 0, 2, 2, 2), false⟩, ⟨233, (38, 0, 0, 1, 1, 1), (46, 5, 1, 2, 2, 2), false⟩, ⟨234, (16, 0, 0, 3, 4, 4), (46, 5, 2, 2, 2, 2), false⟩, ⟨235, (5, 0, 0, 1, 1, 1), (46, 5, 3, 2, 2, 2), true⟩, ⟨236, (5, 0, 0, 1, 1, 1), (46, 5, 4, 2, 2, 2), true⟩, ⟨237, (5, 0, 0, 1, 1, 1), (46, 5, 5, 2, 2, 2), true⟩, ⟨238, (24, 5, 0, 2, 2, 2), (46, 5, 6, 2, 4, 4), false⟩, ⟨239, (42, 5, 0, 1, 4, 4), (46, 5, 7, 2, 2, 2), false⟩, ⟨240, (11, 0, 0, 2, 3, 3), (46, 6, 0, 2, 2, 2), false⟩, ⟨241, (22, 4, 0, 1, 3, 3), (46, 6, 1, 2, 2, 2), false⟩, ⟨242, (13, 0, 0, 1, 2, 2), (46, 6, 2, 2, 2, 2), false⟩, ⟨243, (3, 0, 0, 1, 1, 1), (46, 6, 3, 2, 2, 2), false⟩, ⟨244, (5, 0, 0, 1, 1, 1), (46, 6, 4, 2, 2, 2), true⟩, ⟨245, (21, 4, 0, 1, 4, 4), (46, 6, 5, 2, 2, 2), false⟩, ⟨246, (24, 6, 0, 2, 2, 2), (46, 6, 6, 2, 4, 4), false⟩, ⟨247, (42, 6, 0, 1, 4, 4), (46, 6, 7, 2, 2, 2), false⟩, ⟨248, (20, 0, 0, 2, 3, 3), (46, 7, 0, 2, 2, 2), false⟩, ⟨249, (19, 0, 0, 1, 2, 2), (46, 7, 1, 2, 2, 2), false⟩, ⟨250, (15, 0, 0, 3, 4, 4), (46, 7, 2, 2, 2, 2), false⟩, ⟨251, (4, 0, 0, 1, 1, 1), (46, 7, 3, 2, 2, 2), false⟩, ⟨252, (5, 0, 0, 1, 1, 1), (46, 7, 4, 2, 2, 2), true⟩, ⟨253, (5, 0, 0, 1, 1, 1), (46, 7, 5, 2, 2, 2), true⟩, ⟨254, (24, 7, 0, 2, 2, 2), (46, 7, 6, 2, 4, 4), false⟩, ⟨255, (42, 7, 0, 1, 4, 4), (46, 7, 7, 2, 2, 2), false⟩]
def apB (x y : Opc) : Bool := (eq6 x.d y.d == (x.m == y.m || (x.i && y.i))) && ((eq6 x.c y.c == (x.m == y.m)) && !eq6 x.d y.c)
def opcs0 : List Opc := (opcs.drop 0).take 16
theorem ap_0 : (opcs0.all fun x => opcs.all fun y => apB x y) = true := by kernel_rfl
def opcs1 : List Opc := (opcs.drop 16).take 16
theorem ap_1 : (opcs1.all fun x => opcs.all fun y => apB x y) = true := by kernel_rfl
def opcs2 : List Opc := (opcs.drop 32).take 16
theorem ap_2 : (opcs2.all fun x => opcs.all fun y => apB x y) = true := by kernel_rfl
def opcs3 : List Opc := (opcs.drop 48).take 16
theorem ap_3 : (opcs3.all fun x => opcs.all fun y => apB x y) = true := by kernel_rfl
def opcs4 : List Opc := (opcs.drop 64).take 16
theorem ap_4 : (opcs4.all fun x => opcs.all fun y => apB x y) = true := by kernel_rfl
def opcs5 : List Opc := (opcs.drop 80).take 16
theorem ap_5 : (opcs5.all fun x => opcs.all fun y => apB x y) = true := by kernel_rfl
def opcs6 : List Opc := (opcs.drop 96).take 16
theorem ap_6 : (opcs6.all fun x => opcs.all fun y => apB x y) = true := by kernel_rfl
def opcs7 : List Opc := (opcs.drop 112).take 16
theorem ap_7 : (opcs7.all fun x => opcs.all fun y => apB x y) = true := by kernel_rfl
def opcs8 : List Opc := (opcs.drop 128).take 16
theorem ap_8 : (opcs8.all fun x => opcs.all fun y => apB x y) = true := by kernel_rfl
def opcs9 : List Opc := (opcs.drop 144).take 16
theorem ap_9 : (opcs9.all fun x => opcs.all fun y => apB x y) = true := by kernel_rfl
def opcs10 : List Opc := (opcs.drop 160).take 16
theorem ap_10 : (opcs10.all fun x => opcs.all fun y => apB x y) = true := by kernel_rfl
def opcs11 : List Opc := (opcs.drop 176).take 16
theorem ap_11 : (opcs11.all fun x => opcs.all fun y => apB x y) = true := by kernel_rfl
def opcs12 : List Opc := (opcs.drop 192).take 16
theorem ap_12 : (opcs12.all fun x => opcs.all fun y => apB x y) = true := by kernel_rfl
def opcs13 : List Opc := (opcs.drop 208).take 16
theorem ap_13 : (opcs13.all fun x => opcs.all fun y => apB x y) = true := by kernel_rfl
def opcs14 : List Opc := (opcs.drop 224).take 16
theorem ap_14 : (opcs14.all fun x => opcs.all fun y => apB x y) = true := by kernel_rfl
def opcs15 : List Opc := (opcs.drop 240).take 16
theorem ap_15 : (opcs15.all fun x => opcs.all fun y => apB x y) = true := by kernel_rfl

theorem ap_all {x y : Opc} (hx : x ∈ opcs) (hy : y ∈ opcs) : apB x y = true := by
  have hx : x ∈ opcs0 ++ opcs1 ++ opcs2 ++ opcs3 ++ opcs4 ++ opcs5 ++ opcs6 ++ opcs7 ++ opcs8 ++ opcs9 ++ opcs10 ++ opcs11 ++ opcs12 ++ opcs13 ++ opcs14 ++ opcs15 := hx
  simp only [List.mem_append] at hx
  rcases hx with (((((((((((((((hx | hx) | hx) | hx) | hx) | hx) | hx) | hx) | hx) | hx) | hx) | hx) | hx) | hx) | hx) | hx)
  · exact List.all_eq_true.1 (List.all_eq_true.1 ap_0 x hx) y hy
  · exact List.all_eq_true.1 (List.all_eq_true.1 ap_1 x hx) y hy
  · exact List.all_eq_true.1 (List.all_eq_true.1 ap_2 x hx) y hy
  · exact List.all_eq_true.1 (List.all_eq_true.1 ap_3 x hx) y hy
  · exact List.all_eq_true.1 (List.all_eq_true.1 ap_4 x hx) y hy
  · exact List.all_eq_true.1 (List.all_eq_true.1 ap_5 x hx) y hy
  · exact List.all_eq_true.1 (List.all_eq_true.1 ap_6 x hx) y hy
  · exact List.all_eq_true.1 (List.all_eq_true.1 ap_7 x hx) y hy
  · exact List.all_eq_true.1 (List.all_eq_true.1 ap_8 x hx) y hy
  · exact List.all_eq_true.1 (List.all_eq_true.1 ap_9 x hx) y hy
  · exact List.all_eq_true.1 (List.all_eq_true.1 ap_10 x hx) y hy
  · exact List.all_eq_true.1 (List.all_eq_true.1 ap_11 x hx) y hy
  · exact List.all_eq_true.1 (List.all_eq_true.1 ap_12 x hx) y hy
  · exact List.all_eq_true.1 (List.all_eq_true.1 ap_13 x hx) y hy
  · exact List.all_eq_true.1 (List.all_eq_true.1 ap_14 x hx) y hy
  · exact List.all_eq_true.1 (List.all_eq_true.1 ap_15 x hx) y hy

noncomputable def opcB (m : Nat) : Bool := match opcs[m]? with
  | some x => x.m == m && (decQ decTab (m : Int) == some x.d) && (decQ cbTab (m : Int) == some x.c) && (illQ (m : Int) == some x.i)
  | none => false
theorem opc_all : (List.range 256).all opcB = true := by kernel_rfl
theorem opc_get {a : Int} (h0 : 0 ≤ a) (h1 : a < 256) : ∃ x ∈ opcs, (x.m : Int) = a ∧ decQ decTab a = some x.d ∧ decQ cbTab a = some x.c ∧ illQ a = some x.i := by
  have h := List.all_eq_true.1 opc_all a.toNat (List.mem_range.2 (by omega))
  have e : ((a.toNat : Nat) : Int) = a := by omega
  unfold opcB at h
  split at h
  · rename_i x hx
    simp only [Bool.and_eq_true, beq_iff_eq, e] at h
    exact ⟨x, List.mem_of_getElem? hx, by omega, h.1.1.2, h.1.2, h.2⟩
  · simp at h
theorem opcodeApart_walk (a0 a1 : Int) (w : World) (h0 : (Lit.int .u8 a0).wf = true) (h1 : (Lit.int .u8 a1).wf = true) : Calls Go.Proofs.Try.prog 7 #[.int .u8 a0, .int .u8 a1] w fun e w' => e = .returned (.bool true) ∧ Below w.heap.size w w' := by
  obtain ⟨m, hm, rfl⟩ := nat_of h0
  obtain ⟨n, hn, rfl⟩ := nat_of h1
  refine law_of (n := 300) (d := 3) tblL_ok (known_ok knA_ok) (args := [u8A (m : Int), u8A (n : Int)]) ?_ ⟨u8A_R [] _, u8A_R [] _, trivial⟩
  rw [ap_eq]
  obtain ⟨x, hx, hxm, hx1, hx2, hx3⟩ := opc_get (a := (m : Int)) (by omega) (by omega)
  obtain ⟨y, hy, hym, hy1, hy2, hy3⟩ := opc_get (a := (n : Int)) (by omega) (by omega)
  have hb := ap_all hx hy
  unfold apB at hb
  simp only [Bool.and_eq_true, beq_iff_eq] at hb
  obtain ⟨b1, b2, b3⟩ := hb
  have exy : (x.m == y.m) = ((m : Int) == (n : Int)) := by
    rw [Bool.eq_iff_iff, beq_iff_eq, beq_iff_eq]; omega
  rw [exy] at b1 b2
  have key : ∀ z, (if ((m : Int) == (n : Int)) = true then true else z) = eq6 x.d y.d → apX (decQ decTab) (decQ cbTab) (m : Int) (n : Int) (eq6 x.d y.d) z = some () := by
    intro z hz
    unfold apX
    cases hmn : ((m : Int) == (n : Int)) with
    | true =>
      rw [hmn] at hz b2
      simp only [if_true] at hz
      simp only [apR, asks_eq, hx1, hx2, hy2, Option.bind_some, ← hz, b2, b3]
      simp [hmn, b2]
    | false =>
      rw [hmn] at hz b2
      simp only [Bool.false_eq_true, if_false] at hz
      subst hz
      simp only [apR, asks_eq, hx1, hx2, hy2, Option.bind_some, b2, b3]
      simp [hmn, b2]
  unfold apL
  simp only [asks_eq, hx1, hy1, hx3, hy3, Option.bind_some]
  cases hi : x.i with
  | true =>
    simp only [beq_self_eq_true, if_true]
    refine key _ ?_
    rw [hi, Bool.true_and] at b1
    rw [b1]; cases ((m : Int) == (n : Int)) <;> simp
  | false =>
    simp only [Bool.false_eq_true, if_false, beq_iff_eq]
    refine key _ ?_
    rw [hi, Bool.false_and] at b1
    rw [b1]; cases ((m : Int) == (n : Int)) <;> simp

end Go.Proofs.Ytihngfbkkhneeaa.E
