/- The seat's functions pass the check. -/
import Derived.Test.YtklhcnnpgkkjcaaGreatDoorTREnv
import Derived.Test.YtklhcnnpgkkjcaaGreatDoorTRDf
namespace Go.Proofs.YtklhcnnpgkkjcaaGreatDoor
open Go Go.Ab
noncomputable def q68(P:Program)(an:An)(h:Nat):Bool:=match P.funcs[h]? with
 |some fn=>match fn.body with|some c=>decide (fn.name≠ "runtime.NumGoroutine")&&((env.lib h).isSome||q5w (q8q an) h fn.ntmps c)|none=>false
 |none=>false
set_option maxRecDepth 100000
theorem fchk0:((List.range' 0 60).all fun h=>!okF h||q68 Tryz.prog an h)=true:=by kernel_rfl
theorem fchk1:((List.range' 60 60).all fun h=>!okF h||q68 Tryz.prog an h)=true:=by kernel_rfl
theorem fchk2:((List.range' 120 60).all fun h=>!okF h||q68 Tryz.prog an h)=true:=by kernel_rfl
theorem fchk3:((List.range' 180 60).all fun h=>!okF h||q68 Tryz.prog an h)=true:=by kernel_rfl
theorem fchk4:((List.range' 240 60).all fun h=>!okF h||q68 Tryz.prog an h)=true:=by kernel_rfl
theorem fchk5:((List.range' 300 60).all fun h=>!okF h||q68 Tryz.prog an h)=true:=by kernel_rfl
theorem fchk6:((List.range' 360 60).all fun h=>!okF h||q68 Tryz.prog an h)=true:=by kernel_rfl
theorem fchk7:((List.range' 420 60).all fun h=>!okF h||q68 Tryz.prog an h)=true:=by kernel_rfl
theorem qrv:((List.range (lastF+1)).all fun h=>!okF h||q68 Tryz.prog an h)=true:=by
 rw[List.all_eq_true];intro h hh;have hl:lastF<480:=by decide
 have hh:=List.mem_range.1 hh;have key:∀a,((List.range' a 60).all fun h=>!okF h||q68 Tryz.prog an h)=true->a<=h->h<a+60->(!okF h||q68 Tryz.prog an h)=true:=fun a e h1 h2=>List.all_eq_true.1 e h (List.mem_range'_1.2 ⟨h1,h2⟩);by_cases h1:h<60;·exact key 0 fchk0 (by omega) (by omega)
 by_cases h2:h<120;·exact key 60 fchk1 (by omega) (by omega)
 by_cases h3:h<180;·exact key 120 fchk2 (by omega) (by omega)
 by_cases h4:h<240;·exact key 180 fchk3 (by omega) (by omega)
 by_cases h5:h<300;·exact key 240 fchk4 (by omega) (by omega)
 by_cases h6:h<360;·exact key 300 fchk5 (by omega) (by omega)
 by_cases h7:h<420;·exact key 360 fchk6 (by omega) (by omega)
 .exact key 420 fchk7 (by omega) (by omega)
theorem mixed:Tryz.prog.follows .mixedOrders=true:=by kernel_rfl
end Go.Proofs.YtklhcnnpgkkjcaaGreatDoor
