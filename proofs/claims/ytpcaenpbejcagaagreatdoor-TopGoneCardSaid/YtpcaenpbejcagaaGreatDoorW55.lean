/- Lemmas for TopHalf and TopGone. Conditions: the listed variables hold what their initialisers lay. -/
import Derived.Test.YtpcaenpbejcagaaGreatDoorW47
import Derived.Test.YtpcaenpbejcagaaGreatDoorW48
import Derived.Test.YtpcaenpbejcagaaGreatDoorW49
import Derived.Test.YtpcaenpbejcagaaGreatDoorW50
import Derived.Test.YtpcaenpbejcagaaGreatDoorW51
import Derived.Test.YtpcaenpbejcagaaGreatDoorW52
import Derived.Test.YtpcaenpbejcagaaGreatDoorW53
import Derived.Test.YtpcaenpbejcagaaGreatDoorW54
set_option linter.all false
set_option maxRecDepth 100000
set_option maxHeartbeats 4000000
namespace Go.Proofs.YtpcaenpbejcagaaGreatDoor
section
open Go
theorem p1:joinedFacts Tryz.prog 4 Tryz.f4 Rows.topGoneSpec Rows.topGoneRow=true:=by have b:=AH;have c:=AB;have d:=AA;have h:=Az;simp only[Bool.and_eq_true]at b c d h;obtain⟨⟨⟨⟨⟨⟨⟨⟨g,i⟩,j⟩,l⟩,m⟩,n⟩,o⟩,p⟩,q⟩:=b;obtain⟨⟨⟨⟨⟨⟨⟨⟨r,s⟩,t⟩,u⟩,v⟩,w⟩,x⟩,y⟩,z⟩:=c;obtain⟨⟨⟨⟨⟨B,C⟩,E⟩,F⟩,H⟩,I⟩:=d;obtain⟨⟨⟨K,L⟩,M⟩,N⟩:=h;(have a:∀{e f:Bool},e=true->f=true->(e&&f)=true:=fun h k=>by rw[h,k];rfl);exact a (a (a (a (a (a (a (a (a (a (a (a (a (a (a (a (a (a (a (a (a (a (a (a (a (a (a (a (a (a (a g i) j) l) m) n) o) p) q) AG) AF) AE) AD) r) s) t) u) v) w) x) y) z) B) C) E) F) H) I) K) L) M) N
end
end Go.Proofs.YtpcaenpbejcagaaGreatDoor
