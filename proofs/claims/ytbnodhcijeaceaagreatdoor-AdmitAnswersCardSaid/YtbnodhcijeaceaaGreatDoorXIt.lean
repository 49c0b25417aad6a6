/- Closed terms that are read. -/
import Derived.Test.YtbnodhcijeaceaaGreatDoorXIs
set_option linter.all false
set_option maxRecDepth 1000000
namespace Go.Proofs.YtbnodhcijeaceaaGreatDoor
open Go Go.Am Go.Gw
def recT:Tm:=pi_ (pi_ tNat (so_ lu)) (pi_ (ap (vr 0) (cq j6O)) (pi_ (pi_ tNat (pi_ (ap (vr 2) (vr 0)) (ap (vr 3) (ap (cq j8b) (vr 1))))) (pi_ tNat (ap (vr 3) (vr 0)))))
def jm8:isTm (recT) ((ev C1 60).call 43 [sv [40,62,32,40,62,32,110,97,116,32,40,42,32,117,48,41,41,32,40,62,32,40,35,48,32,110,97,116,46,122,101,114,111,41,32,40,62,32,40,62,32,110,97,116,32,40,62,32,40,35,50,32,35,48,41,32,40,35,51,32,40,110,97,116,46,115,117,99,99,32,35,49,41,41,41,41,32,40,62,32,110,97,116,32,40,35,51,32,35,48,41,41,41,41,41]] [])=true:=by kernel_rfl
def jm9:isTm (pi_ tNat (pi_ tNat tNat)) ((ev C1 60).call 43 [sv [40,62,32,110,97,116,32,40,62,32,110,97,116,32,110,97,116,41,41]] [])=true:=by kernel_rfl
def jpc:isTm (so_ l0) ((ev C1 60).call 43 [sv [40,42,32,48,41]] [])=true:=by kernel_rfl
def jri:isTm (cq [112]) ((ev C1 60).call 43 [sv [112]] [])=true:=by kernel_rfl
def jrj:isTm (pi_ tNat (so_ l0)) ((ev C1 60).call 43 [sv [40,62,32,110,97,116,32,40,42,32,48,41,41]] [])=true:=by kernel_rfl
