/-
  Texts of one proof, laid together: ShC.
-/
import Derived.Test.YtolnciihfbifcaaGreatME
set_option linter.unusedVariables false
set_option linter.unusedSimpArgs false
set_option linter.defProp false
open Option renaming some→D
open Bool renaming true→V,false→U
open Go.cV.aa renaming int→I,bool→Z
open Go.IntKind renaming i64→J
namespace Go.Proofs.YtolnciihfbifcaaGreat
open Go.cV
set_option maxRecDepth 100000
noncomputable section
def pP(G:ai)(g:aa)(H:af):O:=aK H (bl (H).next g) λd b=>ad (ak P 43 d 0) λi=>ad (ah P b 3 i) λj=>ad (al P .eql 3 V j (I J 3)) λa=>au a U b (aE (ak P 43 d 2)) λk c=>au a U c (qr (ah P c 3 k)) λl e=>au a U e (aE (al P .gtr 3 V l (I J 0))) λm f=>ad (aU a (D (Z V)) (D m)) λh=>D (h,f)
def aqE(G:ai)(N:Nat)(a:aa)(H:af):aB Tryz.f90 G N (aO [a]) H=pP G a H:=by
 refine aT (A:=aB Tryz.f90 G N) (aj _) ?_;delta pP;kernel_rfl
