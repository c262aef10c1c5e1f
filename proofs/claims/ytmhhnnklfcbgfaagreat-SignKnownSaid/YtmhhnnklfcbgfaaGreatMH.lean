/-
  Texts of one proof, laid together: ShC.
-/
import Derived.Test.YtmhhnnklfcbgfaaGreatME
set_option linter.unusedVariables false
set_option linter.unusedSimpArgs false
set_option linter.defProp false
open Option renaming some→D
open Bool renaming true→V,false→U
open Go.bN.aa renaming int→I,bool→Z
open Go.IntKind renaming i64→J
namespace Go.Proofs.YtmhhnnklfcbgfaaGreat
open Go.bN
set_option maxRecDepth 100000
noncomputable section
def qP(G:ai)(g:aa)(H:ae):O:=aO H (bo (H).next g) λd b=>ad (ak P 46 d 0) λi=>ad (ah P b 3 i) λj=>ad (al P .eql 3 V j (I J 3)) λa=>ao a U b (az (ak P 46 d 2)) λk c=>ao a U c (qr (ah P c 3 k)) λl e=>ao a U e (az (al P .gtr 3 V l (I J 0))) λm f=>ad (aN a (D (Z V)) (D m)) λh=>D (h,f)
def R7(G:ai)(N:Nat)(a:aa)(H:ae):aD Tryz.f50 G N (aP [a]) H=qP G a H:=by
 refine aS (A:=aD Tryz.f50 G N) (aj _) ?_;delta qP;kernel_rfl
