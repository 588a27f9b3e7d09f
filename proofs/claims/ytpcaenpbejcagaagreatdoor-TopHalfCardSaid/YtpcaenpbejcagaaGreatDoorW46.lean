/- Lemmas for TopHalf and TopGone. Conditions: the listed variables hold what their initialisers lay. -/
import Derived.Test.YtpcaenpbejcagaaGreatDoorW38
import Derived.Test.YtpcaenpbejcagaaGreatDoorW39
import Derived.Test.YtpcaenpbejcagaaGreatDoorW40
import Derived.Test.YtpcaenpbejcagaaGreatDoorW41
import Derived.Test.YtpcaenpbejcagaaGreatDoorW42
import Derived.Test.YtpcaenpbejcagaaGreatDoorW43
import Derived.Test.YtpcaenpbejcagaaGreatDoorW44
import Derived.Test.YtpcaenpbejcagaaGreatDoorW45
set_option linter.all false
set_option maxRecDepth 100000
set_option maxHeartbeats 4000000
namespace Go.Proofs.YtpcaenpbejcagaaGreatDoor
section
open Go
theorem p0:joinedFacts Tryz.prog 3 Tryz.f3 Rows.topHalfSpec Rows.topHalfRow=true:=by have b:=Ax;have c:=As;have d:=Ar;have h:=Aq;simp only[Bool.and_eq_true]at b c d h;obtain⟨⟨⟨⟨⟨⟨⟨⟨g,i⟩,j⟩,l⟩,m⟩,n⟩,o⟩,p⟩,q⟩:=b;obtain⟨⟨⟨⟨⟨⟨⟨⟨r,s⟩,t⟩,u⟩,v⟩,w⟩,x⟩,y⟩,z⟩:=c;obtain⟨⟨⟨⟨⟨B,C⟩,E⟩,F⟩,H⟩,I⟩:=d;obtain⟨⟨⟨K,L⟩,M⟩,N⟩:=h;(have a:∀{e f:Bool},e=true->f=true->(e&&f)=true:=fun h k=>by rw[h,k];rfl);exact a (a (a (a (a (a (a (a (a (a (a (a (a (a (a (a (a (a (a (a (a (a (a (a (a (a (a (a (a (a (a g i) j) l) m) n) o) p) q) Aw) Av) Au) At) r) s) t) u) v) w) x) y) z) B) C) E) F) H) I) K) L) M) N
end
end Go.Proofs.YtpcaenpbejcagaaGreatDoor
