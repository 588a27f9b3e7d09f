/- Lemmas for TopHalf and TopGone. Conditions: the listed variables hold what their initialisers lay. -/
import Derived.Test.YtpcaenpbejcagaaGreatDoorW04
set_option linter.all false
set_option maxRecDepth 100000
set_option maxHeartbeats 4000000
open Bool renaming false->OD,true->OQ
open Go renaming World->OB,Calls->OJ,Value->OU,results->Sc
open Go.Ending renaming returned->Ov
open Go.IntKind renaming i64->D
open Go.Obj renaming cells->A
open Go.Proofs.Tryz renaming prog->Ot,results420->VA,results367->Xq
open Go.RowKit renaming Below->OE
open Go.Value renaming int->U,slice->J,tuple->OP,agg->O8
open Go.World renaming setCell->Sq
open List renaming range->Qj
open Option renaming some->Z,none->Y
open Or renaming inl->O4,inr->Pu
namespace Go.Proofs.YtpcaenpbejcagaaGreatDoor
section
open Go.RowKit Go.Lib Go.Shelf Ad
attribute[local go_sem]Oper.semAt_some
theorem e4.set{a i}{b c}{v}(h:e4 a b c):e4 a b (c.setCell ⟨a,i,Y⟩ v):=h.trans ⟨rfl,rfl,rfl,by simp[Sq],fun k _ d=>PF _ _ _ _ (fun e=>d (by simp[e]))⟩
theorem e4.oset{b c f}{a d}{g}(h:e4 b a d)(l:a.heap.size<=c):e4 b a (d.setCell ⟨c,f,Y⟩ g):=⟨h.os,h.tape,h.output,by simpa[Sq]using h.size,fun k i j=>(PF _ _ _ _ (by intro e;simp at e;omega)).trans (h.block k i j)⟩
theorem e4.al{a}{b c}(h:e4 a b c)(d):e4 a b (c.alloc d):=h.trans (e4.af ((Ow _ _).alloc (Ox _) d))
theorem e4.dr{a}{b c}(h:e4 a b c):e4 a b c.drew:=⟨h.os,h.tape,h.output,h.size,h.block⟩
def ic(a b:Int):Int:=(b-4096*a+127)/128
def ia(b:Int->Option (Nat×Nat))(a:N8):Option N8:=if iP a.1 a.2.1 a.2.2 then zf a.1 (b (ic a.1 a.2.2))else Y
def L2(a:N8)(b:OU):Array OU:=#[U D a.1,U D a.2.1,U D a.2.2,b]
def tQ(d:OB)(a:Nat)(e:OU)(f:N8)(b:Option N8)(g:Ending)(c:OB):Prop:=g=Ov (E4 b)/\bi c a (L2 (b.getD f) e) 481/\e4 a d c
theorem dR{b:OB}{a:Addr}{c:OU}{B k:Nat}{x:OU}(h:b.cell? a=Z c)(d:a.block≠B):(b.setCell ⟨B,k,Y⟩ x).cell? a=Z c:=(QU (PF b ⟨B,k,Y⟩ x a.block d)).trans h
theorem re(b:Nat)(c d f:Int)(a:OB)(g:a.q b 0 c)(c1:a.q b 1 d)(c2:a.q b 2 f)(h:iP c d f):OJ Ot 340 #[b] a fun e i=>e=Ov OQ/\OE a a i:=by have:=jT b c d f a g c1 c2;rwa[P1 h]at this
theorem BD(b:Nat)(c d f:Int)(a:OB)(g:a.q b 0 c)(c1:a.q b 1 d)(c2:a.q b 2 f)(h:¬iP c d f):OJ Ot 340 #[b] a fun e i=>e=Ov OD/\OE a a i:=by have:=jT b c d f a g c1 c2;rwa[PK h]at this
theorem D9(b)(i)(j k)(d e f:Int)(a)(m:bi a b #[d,e,f,J i j k] 481)(h:¬iP d e f):OJ Ot 420 #[b] a (tQ a b (J i j k) (d,e,f) Y):=by obtain⟨n,o,w⟩:=d5 a #[(),(),()] 79;have x:=m.lt;have g:=m.alloc (A #[(),(),()] 79);have c2:(a.alloc (A #[(),(),()] 79)).q b 2 f:=g.cell rfl;have p:=BD b d e f _ (show(a.alloc (A #[(),(),()] 79)).q b 0 d from g.cell rfl) (show(a.alloc (A #[(),(),()] 79)).q b 1 e from g.cell rfl) c2 h;go_in;go_wp2_with fail;refine p.mono ?_;rintro y l⟨rfl,hb⟩;have c:=n.aa hb;have q:l.q a 0 ():=c.cell rfl;have z:=c.frozen;have r:l.q a 1 ():=c.cell rfl;have B:=c.frozen;have s:l.q a 2 ():=c.cell rfl;have C:=c.frozen;have t:=c.lt;have u:=g.aa hb;have v:=e4.af (g:=b) (a0 o hb);go_wp2;refine OM (v:=OP #[O8 #[(),(),()],OD]) (by simp[Sc,VA,go_sem,q,r,s,t]) rfl ⟨rfl,?_,?_⟩;(·show bi _ b #[d,e,f,J i j k] 481;repeat with_reducible first|exact u|refine bi.alloc ?_ _|refine bi.other ?_ Oq _ _|refine bi.drew ?_);·repeat with_reducible first|exact v|refine e4.al ?_ _|refine e4.oset ?_ Oq|refine e4.dr ?_
theorem Bi(a)(g)(i j)(b l c:Int)(d)(y:Int->Option (Nat×Nat))(Q:m7 d (J g i j) y)(B C E)(R:dX d B C E)(F:bi d a #[b,l,c,J g i j] 481)(h:iP b l c)(S:y (ic b c)=Y):OJ Ot 420 #[a] d (tQ d a (J g i j) (b,l,c) Y):=by obtain⟨T,V,hs⟩:=d5 d #[(),(),()] 79;have ag:=F.lt;have e:=F.alloc (A #[(),(),()] 79);have z:(d.alloc (A #[(),(),()] 79)).q a 0 b:=e.cell rfl;have c1:(d.alloc (A #[(),(),()] 79)).q a 1 l:=e.cell rfl;have c2:(d.alloc (A #[(),(),()] 79)).q a 2 c:=e.cell rfl;have X:=G (re a b l c _ z c1 c2 h);obtain⟨h0,h1,_,_,h4,h5,h6⟩:=h;have HN:=G Q;have HV:=G R;have H:=G (fun(W:OB)(I:Int)(K:d.B W)(hl:I=ic b c)=>Ba (J g i j) b I W y (HN.o.below K) B C E (HV.o.below K) ⟨h0,h1⟩ (by rw[hl];exact S));have aa:=e;have e1:D.wrap (b*4096)=b*4096:=OK _ Oq;have e2:D.wrap (c-b*4096)=c-b*4096:=OK _ Oq;go_in;go_wp2_with fail;refine X.o.mono ?_;rintro L k⟨rfl,hb⟩;have e:=aa.aa hb;have z:k.q a 0 b:=e.cell rfl;have c1:k.q a 1 l:=e.cell rfl;have c2:k.q a 2 c:=e.cell rfl;have c3:k.q a 3 (J g i j):=e.cell rfl;have B1:=T.aa hb;have ab:=a0 V hb;have ad:=e;go_wp2;go_quiet(fail);go_wp2;generalize hu:c-b*4096=f;have ah:0<=f:=Oq;have ai:f<=4096:=Oq;have ae:=G (show(f+128-1)/128=ic b c by unfold ic;rw[<-hu];congr 1;omega);have M:=G (show(f+128-1).tdiv 128=ic b c by rw[R3 Oq];exact ae.o);have e3:D.wrap (f+128)=f+128:=OK _ Oq;have aj:D.wrap (f+128-1)=f+128-1:=OK _ Oq;have e5:D.wrap ((f+128-1).tdiv 128)=(f+128-1).tdiv 128:=OK _ (by rw[R3 Oq];omega);have o:(k.drewN nq).q a 0 b:=z;have p:(k.drewN nq).q a 3 (J g i j):=c3;have u:Hid (bi (k.drewN nq) d #[(),(),()] 79):=B1;have v:Hid (bi (k.drewN nq) a #[b,l,c,J g i j] 481):=ad;have t:=Ad.gy ab nq;generalize k.drewN nq=q at o p u v t⊢;have ak:=u.lt;have N:=v.lt;go_region_held3(fun O=>O.q a 0 b/\O.q a 3 (J g i j))(with_reducible first|exact⟨o,p⟩|exact⟨a5 o,a5 p⟩|exact⟨a5 (a3 _ o),a5 (a3 _ p)⟩|exact⟨a3 _ (a5 o),a3 _ (a5 p)⟩|exact⟨w,x⟩|exact⟨a3 _ w,a3 _ x⟩|exact⟨dR (dR (dR w r) r) r,dR (dR (dR x r) r) r⟩)(first|(go_at_call 423;(with_reducible refine(H.o q.drew _ t.drew ?_).mono ?_);exact M.o;rintro L s⟨rfl,hb⟩;have w:=ac (a5 o) hb;have x:=ac (a5 p) hb;have m:=u.drew.aa hb;have e:=v.drew.aa hb;have r:a≠q:=Qc N;have P:=G (a0 t.drew hb);clear hb)|(go_at_call 423;(with_reducible refine(H.o _ _ (a9 (a2 t _)) ?_).mono ?_);exact M.o;rintro L s⟨rfl,hb⟩;have w:=ac (a5 (a3 _ o)) hb;have x:=ac (a5 (a3 _ p)) hb;have m:=(u.alloc _).drew.aa hb;have e:=(v.alloc _).drew.aa hb;have n:=(bi.new q #[(),(),()] 79).drew.aa hb;have s0:s.q q 0 ():=n.cell rfl;have s1:s.q q 1 ():=n.cell rfl;have s2:s.q q 2 ():=n.cell rfl;have z0:=n.frozen 0;have z1:=n.frozen 1;have z2:=n.frozen 2;have al:=n.lt;have r:a≠q:=Qc N;have P:=G (a0 (a9 (a2 t _)) hb);clear hb n));all_goals have p0:s.q d 0 ():=m.cell rfl;have q0:=m.frozen;have p1:s.q d 1 ():=m.cell rfl;have q1:=m.frozen;have p2:s.q d 2 ():=m.cell rfl;have q2:=m.frozen;have af:=m.lt;have an:=e.lt;have HU:=G (e4.af (g:=a) P.o);go_wp2;refine OM (v:=OP #[O8 #[(),(),()],OD]) (by simp[Sc,VA,go_sem,p0,p1,p2,af]) rfl ⟨rfl,?_,?_⟩;(·show bi _ a #[b,l,c,J g i j] 481;repeat with_reducible first|exact e|refine bi.alloc ?_ _|refine bi.other ?_ Oq _ _|refine bi.drew ?_);·repeat with_reducible first|exact HU.o|refine e4.al ?_ _|refine e4.oset ?_ Oq|refine e4.dr ?_
theorem Bh(b)(g)(i j)(a l c:Int)(e)(z:Int->Option (Nat×Nat))(R:m7 e (J g i j) z)(C E F)(S:dX e C E F)(H:bi e b #[a,l,c,J g i j] 481)(h:iP a l c)(f)(T:z (ic a c)=Z f)(V:f.1<f.2/\f.2<=32):OJ Ot 420 #[b] e (tQ e b (J g i j) (a,l,c) (Z (nk a f))):=by obtain⟨X,hB,hs⟩:=d5 e #[(),(),()] 79;have ag:=H.lt;have d:=H.alloc (A #[(),(),()] 79);have B:(e.alloc (A #[(),(),()] 79)).q b 0 a:=d.cell rfl;have c1:(e.alloc (A #[(),(),()] 79)).q b 1 l:=d.cell rfl;have c2:(e.alloc (A #[(),(),()] 79)).q b 2 c:=d.cell rfl;have HI:=G (re b a l c _ B c1 c2 h);obtain⟨h0,h1,_,_,h4,h5,h6⟩:=h;have HN:=G R;have HV:=G S;have I:=G (fun(W:OB)(K:Int)(L:e.B W)(hl:K=ic a c)=>qZ (J g i j) a K f W z (HN.o.below L) C E F (HV.o.below L) ⟨h0,h1⟩ (by rw[hl];exact T) V);have aa:=d;have e1:D.wrap (a*4096)=a*4096:=OK _ Oq;have e2:D.wrap (c-a*4096)=c-a*4096:=OK _ Oq;go_in;go_wp2_with fail;refine HI.o.mono ?_;rintro M m⟨rfl,hb⟩;have d:=aa.aa hb;have B:m.q b 0 a:=d.cell rfl;have c1:m.q b 1 l:=d.cell rfl;have c2:m.q b 2 c:=d.cell rfl;have c3:m.q b 3 (J g i j):=d.cell rfl;have B1:=X.aa hb;have ab:=a0 hB hb;have ad:=d;go_wp2;go_quiet(fail);go_wp2;generalize hu:c-a*4096=k;have ah:0<=k:=Oq;have ai:k<=4096:=Oq;have ae:=G (show(k+128-1)/128=ic a c by unfold ic;rw[<-hu];congr 1;omega);have N:=G (show(k+128-1).tdiv 128=ic a c by rw[R3 Oq];exact ae.o);have e3:D.wrap (k+128)=k+128:=OK _ Oq;have aj:D.wrap (k+128-1)=k+128-1:=OK _ Oq;have e5:D.wrap ((k+128-1).tdiv 128)=(k+128-1).tdiv 128:=OK _ (by rw[R3 Oq];omega);have p:(m.drewN nq).q b 0 a:=B;have q:(m.drewN nq).q b 3 (J g i j):=c3;have v:Hid (bi (m.drewN nq) e #[(),(),()] 79):=B1;have w:Hid (bi (m.drewN nq) b #[a,l,c,J g i j] 481):=ad;have u:=Ad.gy ab nq;generalize m.drewN nq=r at p q v w u⊢;have ak:=v.lt;have O:=w.lt;go_region_held3(fun P=>P.q b 0 a/\P.q b 3 (J g i j))(with_reducible first|exact⟨p,q⟩|exact⟨a5 p,a5 q⟩|exact⟨a5 (a3 _ p),a5 (a3 _ q)⟩|exact⟨a3 _ (a5 p),a3 _ (a5 q)⟩|exact⟨x,y⟩|exact⟨a3 _ x,a3 _ y⟩|exact⟨dR (dR (dR x s) s) s,dR (dR (dR y s) s) s⟩)(first|(go_at_call 423;(with_reducible refine(I.o r.drew _ u.drew ?_).mono ?_);exact N.o;rintro M t⟨rfl,hb⟩;have x:=ac (a5 p) hb;have y:=ac (a5 q) hb;have n:=v.drew.aa hb;have d:=w.drew.aa hb;have s:b≠r:=Qc O;have Q:=G (a0 u.drew hb);clear hb)|(go_at_call 423;(with_reducible refine(I.o _ _ (a9 (a2 u _)) ?_).mono ?_);exact N.o;rintro M t⟨rfl,hb⟩;have x:=ac (a5 (a3 _ p)) hb;have y:=ac (a5 (a3 _ q)) hb;have n:=(v.alloc _).drew.aa hb;have d:=(w.alloc _).drew.aa hb;have o:=(bi.new r #[(),(),()] 79).drew.aa hb;have s0:t.q r 0 ():=o.cell rfl;have s1:t.q r 1 ():=o.cell rfl;have s2:t.q r 2 ():=o.cell rfl;have z0:=o.frozen 0;have z1:=o.frozen 1;have z2:=o.frozen 2;have al:=o.lt;have s:b≠r:=Qc O;have Q:=G (a0 (a9 (a2 u _)) hb);clear hb o));all_goals have p0:t.q e 0 ():=n.cell rfl;have q0:=n.frozen;have p1:t.q e 1 ():=n.cell rfl;have q1:=n.frozen;have p2:t.q e 2 ():=n.cell rfl;have q2:=n.frozen;have af:=n.lt;have an:=d.lt;have g0:=d.cs;have y0:=d.frozen;have HU:=G (e4.af (g:=b) Q.o);go_wp2;refine OM (v:=OP #[O8 #[a,(4096*a+(f.1:Int)*128),(4096*a+(f.2:Int)*128)],OQ]) (by simp[Sc,VA,go_sem,p0,p1,p2,af]) rfl ⟨rfl,?_,?_⟩;(·have eX:(L2 ((Z (nk a f)).getD (a,l,c)) (J g i j))=(((#[a,l,c,J g i j]:Array OU).setIfInBounds 0 a).setIfInBounds 1 (4096*a+(f.1:Int)*128)).setIfInBounds 2 (4096*a+(f.2:Int)*128):=rfl;rw[eX];repeat with_reducible first|exact d|refine bi.alloc ?_ _|refine bi.set ?_ _ _|refine bi.other ?_ Oq _ _|refine bi.drew ?_);·repeat with_reducible first|exact HU.o|refine e4.al ?_ _|refine e4.set ?_|refine e4.oset ?_ Oq|refine e4.dr ?_
theorem qK(f)(g)(i j)(l)(c)(a:Int->Option (Nat×Nat))(r:m7 c (J g i j) a)(t:LI a)(m n o)(s:dX c m n o)(p:bi c f (L2 l (J g i j)) 481):OJ Ot 420 #[f] c (tQ c f (J g i j) l (ia a l)):=by obtain⟨b,e,d⟩:=l;by_cases h:iP b e d;(·cases k:a (ic b d)with|none=>rw[show ia a (b,e,d)=Y by simp[ia,h,zf,k]];exact Bi f g i j b e d c a r m n o s p h k|some q=>rw[show ia a (b,e,d)=Z (nk b q)by have u:=h.1;have v:=h.2.1;simp[ia,h,zf,k,u,v]];exact Bh f g i j b e d c a r m n o s p h q k (t _ q k));·rw[show ia a (b,e,d)=Y by simp[ia,h]];exact D9 f g i j b e d c p h
theorem xV(g)(i j)(c d f n o p:Int)(a:OB)(k:Int->Option (Nat×Nat))(v:m7 a (J g i j) k)(w:LI k)(q r s)(x:dX a q r s)(h:ia k (c,d,f)=Z (n,o,p)):OJ Ot 367 #[J g i j,O8 #[c,d,f]] a fun e y=>e=Ov (OP #[O8 #[n,o,p],OQ])/\OE a a y:=by obtain⟨I,z,B,l,K⟩:=g7 a #[c,d,f] #[(),(),()] #[c,d,f,J g i j] 79 79 481;have t:=qK (a+1+1) g i j (c,d,f) _ k (v.below l) w q r s (x.below l) B;rw[h]at t;go_in;go_wp2_with fail;refine t.mono ?_;rintro L m⟨rfl,_,u⟩;have b:=u.ah z Oq;simp only[E4,Kl,Option.isSome_some];have C:m.q (a+1) 0 ():=b.cell rfl;have M:=b.frozen;have E:m.q (a+1) 1 ():=b.cell rfl;have N:=b.frozen;have F:m.q (a+1) 2 ():=b.cell rfl;have O:=b.frozen;have H:=b.lt;go_wp2;refine OM (by simp[Sc,Xq,go_sem,C,E,F,H]) rfl ⟨rfl,?_⟩;repeat with_reducible first|exact(e4.below l u l.size Oq)|refine a2 ?_ _|refine bQ ?_ Oq|refine a9 ?_
theorem xW(g)(i j)(c d f:Int)(a:OB)(k:Int->Option (Nat×Nat))(s:m7 a (J g i j) k)(t:LI k)(n o p)(u:dX a n o p)(h:ia k (c,d,f)=Y):OJ Ot 367 #[J g i j,O8 #[c,d,f]] a fun e v=>e=Ov (OP #[O8 #[(),(),()],OD])/\OE a a v:=by obtain⟨E,w,x,l,F⟩:=g7 a #[c,d,f] #[(),(),()] #[c,d,f,J g i j] 79 79 481;have q:=qK (a+1+1) g i j (c,d,f) _ k (s.below l) t n o p (u.below l) x;rw[h]at q;go_in;go_wp2_with fail;refine q.mono ?_;rintro H m⟨rfl,_,r⟩;have b:=r.ah w Oq;simp only[E4,Kl,Option.isSome_none];have y:m.q (a+1) 0 ():=b.cell rfl;have I:=b.frozen;have z:m.q (a+1) 1 ():=b.cell rfl;have K:=b.frozen;have B:m.q (a+1) 2 ():=b.cell rfl;have L:=b.frozen;have C:=b.lt;go_wp2;refine OM (by simp[Sc,Xq,go_sem,y,z,B,C]) rfl ⟨rfl,?_⟩;repeat with_reducible first|exact(e4.below l r l.size Oq)|refine a2 ?_ _|refine bQ ?_ Oq|refine a9 ?_
theorem B8(d)(f g)(c)(a:OB)(b:Int->Option (Nat×Nat))(o:m7 a (J d f g) b)(p:LI b)(i j k)(q:dX a i j k):OJ Ot 367 #[J d f g,O8 #[c.1,c.2.1,c.2.2]] a fun e r=>e=Ov (E4 (ia b c))/\OE a a r:=by obtain⟨l,m,n⟩:=c;cases h:ia b (l,m,n)with|none=>exact xW d f g l m n a b o p i j k q h|some s=>obtain⟨t,u,v⟩:=s;exact xV d f g l m n t u v a b o p i j k q h
end
namespace Tr
def fT(d:List (List Nat))(e:List Nat)(f:Nat):Prop:=∀a:Nat->Prop,(∀b∈e,a b)->(∀c b,a c->b∈d.getD c []->a b)->a f
theorem fT.root{c}{b}{a}(h:a∈b):fT c b a:=fun _ d _=>d a h
theorem fT.next{a}{d}{b c}(h:fT a d b)(f:c∈a.getD b []):fT a d c:=fun g i e=>e b c (h g i e) f
def h1(a:Nat)(b:List Nat):Prop:=∀c∈b,c<a
def gR(a:List (List Nat)):Prop:=∀b,h1 a.length (a.getD b [])
structure dZ where
 on:List Bool
 st:List Nat
 deep:Nat
 aF:Bool
def dU(c:Int)(a:dZ)(b:Nat):dZ:=if a.on.getD b OQ=OQ then a else if c<=(a.st.length:Int)then{a with on:=a.on.set b OQ,aF:=OQ}else{a with on:=a.on.set b OQ,st:=a.st++[b],deep:=max a.deep (a.st.length+1)}
def d8(a:Int)(b:dZ)(c:List Nat):dZ:=c.foldl (dU a) b
def en(a:dZ):Nat:=a.on.countP (·==OD)
def eM(a:dZ):Nat:=2*en a+a.st.length
def eF(a:dZ):dZ:={a with st:=a.st.dropLast}
def eu(b:Int)(c:List (List Nat))(a:dZ):dZ:=match a.st.getLast? with|Y=>a|Z n=>d8 b (eF a) (c.getD n [])
def fL(a:Int)(b:List (List Nat)):Nat->dZ->dZ|0,T=>T|k+1,T=>if T.st=[]then T else fL a b k (eu a b T)
def df(b:Int)(c:List (List Nat))(a:dZ):dZ:=fL b c (eM a) a
def gs(b:Int)(c:List (List Nat))(a:dZ)(d:Nat):dZ:=if a.on.getD d OD=OQ then df b c (d8 b a (c.getD d []))else a
def cB(lim:Int)(a:List (List Nat))(b:dZ)(c:Nat):dZ:=(Qj c).foldl (gs lim a) {b with aF:=OD}
def dM(b:Int)(a:List (List Nat))(c:dZ):dZ:=cB b a c a.length
def dL(a:Nat):dZ:={on:=List.replicate a OD,st:=[],deep:=0,aF:=OD}
theorem m4(a:List Bool)(b:Nat)(h:a.getD b OQ=OD):b<a.length/\a[b]?=Z OD:=by by_cases c:b<a.length;(·rw[OL,Oz c]at h;simp at h;exact⟨c,by rw[Oz c,h]⟩);·rw[OL,Qh Oq]at h;simp at h
theorem k6(b:List Bool)(a)(h:b[a]?=Z OD):(b.set a OQ).countP (·==OD)+1=b.countP (·==OD):=by induction b generalizing a with|nil=>simp at h|cons d b c=>cases a with|zero=>simp at h;subst h;simp|succ a=>simp at h;have:=c a h;simp only[Q1,List.countP_cons];omega
theorem wn(b:Int)(a)(c):(dU b a c).on.length=a.on.length:=by unfold dU;split;(·rfl);·split<;>simp
theorem pH(c:Int)(a)(b):eM (dU c a b)<=eM a/\en (dU c a b)<=en a:=by unfold dU;split;(·exact⟨Ox _,Ox _⟩);·rename_i h;have:=k6 a.on b (m4 _ _ (by simpa using h)).2;split;(·simp only[eM,en];omega);·simp only[eM,en,PV,OS,OY];omega
theorem Cp(b:Int)(c):∀a,eM (d8 b a c)<=eM a/\en (d8 b a c)<=en a:=by induction c with|nil=>exact fun _=>⟨Ox _,Ox _⟩|cons d c g=>intro a;have e:=pH b a d;have f:=g (dU b a d);exact⟨Pm f.1 e.1,Pm f.2 e.2⟩
theorem Cm(a)(h:a.st≠[]):eM (eF a)+1=eM a:=by have:=List.length_pos_iff.2 h;simp only[eM,eF,en,VH];omega
theorem iq(b:Int)(c)(a)(h:a.st≠[]):eM (eu b c a)+1<=eM a/\en (eu b c a)<=en a:=by unfold eu;cases hl:a.st.getLast? with|none=>exact absurd (XI.1 hl) h|some d=>have e:=Cp b (c.getD d []) (eF a);have f:=Cm a h;exact⟨by simp only;omega,e.2⟩
theorem pK(d:Int)(e):∀c b a,eM a<=c->eM a<=b->fL d e c a=fL d e b a:=by intro c;induction c with|zero=>intro b a f _;(cases b with|zero=>rfl|succ b=>(have:a.st=[]:=by(have:a.st.length=0:=by simp only[eM]at f;omega);exact QH.1 this);simp[fL,this])|succ c g=>intro b a f i;cases b with|zero=>(have:a.st=[]:=by(have:a.st.length=0:=by simp only[eM]at i;omega);exact QH.1 this);simp[fL,this]|succ b=>simp only[fL];split;(·rfl);·rename_i j;have:=iq d e a j;exact g b _ Oq Oq
theorem iC(b:Int)(c)(a)(h:a.st=[]):df b c a=a:=by unfold df;cases eM a with|zero=>rfl|succ d=>simp[fL,h]
theorem kg(a:Int)(b)(c)(h:c.st≠[]):df a b c=df a b (eu a b c):=by unfold df;have:=iq a b c h;cases d:eM c with|zero=>omega|succ e=>rw[fL,O3 h];exact pK a b _ _ _ Oq (Ox _)
theorem l5(b:Int)(c)(d:dZ->Prop)(i:∀a,a.st≠[]->d a->d (eu b c a)):∀a,d a->d (df b c a)/\(df b c a).st=[]:=by suffices∀f a,eM a<=f->d a->d (df b c a)/\(df b c a).st=[]from fun a=>this _ a (Ox _);intro f;induction f with|zero=>intro a h g;(have:a.st=[]:=by(have:a.st.length=0:=by simp only[eM]at h;omega);exact QH.1 this);rw[iC _ _ _ this];exact⟨g,this⟩|succ f j=>intro a h g;by_cases e:a.st=[];(·rw[iC _ _ _ e];exact⟨g,e⟩);·rw[kg _ _ _ e];have:=iq b c a e;exact j _ Oq (i a e g)
structure fQ(g:List (List Nat))(r:List Nat)(E:Nat->Prop)(T:dZ):Prop where
 len:T.on.length=g.length
 aC:∀m,T.on.getD m OD=OQ->fT g r m
 aT:∀m∈T.st,m<g.length/\T.on.getD m OD=OQ
 cl:T.aF=OD->∀m,T.on.getD m OD=OQ->m∉T.st->¬E m->∀k∈g.getD m [],T.on.getD k OD=OQ
theorem fQ.mono{c}{e}{d f}{b}(h:fQ c e d b)(k:b.aF=OD->∀a,a∉b.st->d a->f a\/∀l∈c.getD a [],b.on.getD l OD=OQ):fQ c e f b:=⟨h.len,h.aC,h.aT,fun g a m i n=>by by_cases j:d a;(·rcases k g a i j with h|h;(·exact absurd h n);·exact h);·exact h.cl g a m i j⟩
theorem ip(c:List Bool)(a b:Nat)(d:a<c.length):(c.set a OQ).getD b OD=if b=a then OQ else c.getD b OD:=by rw[OL,OL,Sk];by_cases h:a=b;(·subst h;simp[d]);·rw[O3 h,O3 Oq]
theorem yB(a:List Bool)(b:Nat)(h:b<a.length):a.getD b OQ=a.getD b OD:=by rw[OL,OL,Oz h];rfl
structure kh(T T':dZ):Prop where
 on:∀m,T.on.getD m OD=OQ->T'.on.getD m OD=OQ
 sp:T.aF=OQ->T'.aF=OQ
 un:en T'<=en T
 lt:T'.aF=OQ->T.aF=OQ\/en T'<en T
theorem kh.refl(a):kh a a:=⟨fun _ h=>h,fun h=>h,Ox _,O4⟩
theorem kh.trans{d e f:dZ}(h:kh d e)(a:kh e f):kh d f:=⟨fun m x=>a.on m (h.on m x),fun x=>a.sp (h.sp x),Pm a.un h.un,fun x=>by rcases a.lt x with b|b;(·rcases h.lt b with c|c;(·exact O4 c);·exact Pu (Nat.lt_of_le_of_lt a.un c));·exact Pu (Q0 b h.un)⟩
theorem yA{e}{j}{o}{lim:Int}{a}{c}(h:fQ e j o a)(u:c<e.length)(hr:fT e j c):fQ e j o (dU lim a c)/\kh a (dU lim a c)/\(dU lim a c).on.getD c OD=OQ:=by have p:=h.len;have f:c<a.on.length:=Oq;unfold dU;by_cases l:a.on.getD c OQ=OQ;(·rw[Pa l];exact⟨h,.refl _,by rw[<-yB _ _ f];exact l⟩);·rw[O3 l];have x:=k6 a.on c (m4 _ _ (by simpa using l)).2;(have g:∀b,a.on.getD b OD=OQ->(a.on.set c OQ).getD b OD=OQ:=fun b d=>by rw[ip _ _ _ f];split<;>first|rfl|exact d);(have m:(a.on.set c OQ).getD c OD=OQ:=by rw[ip _ _ _ f,Pa rfl]);(have q:∀b,(a.on.set c OQ).getD b OD=OQ->fT e j b:=fun b d=>by rw[ip _ _ _ f]at d;split at d;(·rename_i i;rw[i];exact hr);·exact h.aC b d);by_cases hl:lim<=(a.st.length:Int);(·rw[Pa hl];refine⟨⟨by simpa using p,q,fun b d=>⟨(h.aT b d).1,g b (h.aT b d).2⟩,fun n=>by cases n⟩,⟨g,fun _=>rfl,by show(a.on.set c OQ).countP _<=a.on.countP _;omega,fun _=>Pu ?_⟩,m⟩;show(a.on.set c OQ).countP _<a.on.countP _;omega);·rw[O3 hl];refine⟨⟨by simpa using p,q,fun b d=>?_,fun n b r s v k w=>?_⟩,⟨g,fun h=>h,by show(a.on.set c OQ).countP _<=a.on.countP _;omega,O4⟩,m⟩;(·rcases PU.1 d with d|d;(·exact⟨(h.aT b d).1,g b (h.aT b d).2⟩);·rw[OH.1 d];exact⟨u,m⟩);·have t:b≠c/\b∉a.st:=⟨fun i=>s (by simp[i]),fun i=>s (by simp[i])⟩;rw[ip _ _ _ f,O3 t.1]at r;exact g k (h.cl n b r t.2 v k w)
theorem m5{e}{f}{g}{lim:Int}(b):∀{d},fQ e f g d->h1 e.length b->(∀a∈b,fT e f a)->fQ e f g (d8 lim d b)/\kh d (d8 lim d b)/\∀a∈b,(d8 lim d b).on.getD a OD=OQ:=by induction b with|nil=>exact fun h _ _=>⟨h,.refl _,fun _ h=>by cases h⟩|cons i b k=>intro d h hl hr;obtain⟨l,m,n⟩:=yA (lim:=lim) h (hl i (PQ ..)) (hr i (PQ ..));obtain⟨o,j,p⟩:=k l (fun a c=>hl a (P3 _ c)) (fun a c=>hr a (P3 _ c));refine⟨o,m.trans j,fun a c=>?_⟩;rcases Pc.1 c with rfl|c;(·exact j.on _ n);·exact p a c
theorem wt{c}{g}{i}{lim:Int}{a}(n:gR c)(h:fQ c g i a)(o:a.st≠[]):fQ c g i (eu lim c a)/\kh a (eu lim c a):=by unfold eu;cases hl:a.st.getLast? with|none=>exact absurd (XI.1 hl) o|some d=>(have p:a.st=a.st.dropLast++[d]:=by rw[List.getLast?_eq_some_iff]at hl;obtain⟨u,q⟩:=hl;rw[q];simp);have h0:fQ c g (fun m=>i m\/m=d) (eF a):=⟨h.len,h.aC,fun m b=>h.aT m (List.dropLast_subset _ b),fun r m j l f k s=>by refine h.cl r m j (fun b=>?_) (fun e=>f (O4 e)) k s;rw[p]at b;rcases PU.1 b with b|b;(·exact l b);·exact f (Pu (OH.1 b))⟩;obtain⟨j,l,f⟩:=m5 (lim:=lim) (c.getD d []) h0 (n d) (fun x t=>(h.aC d (h.aT d (show d∈a.st from List.mem_of_getLast? hl)).2).next t);refine⟨j.mono fun _ m _ e=>?_,?_⟩;(·rcases e with e|rfl;(·exact O4 e);·exact Pu f);·exact(⟨fun _ h=>h,fun h=>h,Ox _,O4⟩:kh a (eF a)).trans l
theorem nz{c}{e}{f}{lim:Int}{d}(g:gR c)(h:fQ c e f d):fQ c e f (df lim c d)/\kh d (df lim c d)/\(df lim c d).st=[]:=by obtain⟨⟨i,j⟩,k⟩:=l5 lim c (fun X=>fQ c e f X/\kh d X) (fun X l⟨a,b⟩=>by obtain⟨m,n⟩:=wt (lim:=lim) g a l;exact⟨m,b.trans n⟩) d ⟨h,.refl _⟩;exact⟨i,j,k⟩
theorem pA{b}{k}{lim:Int}{c}(l:gR b)(h:fQ b k (fun _=>True) c)(o:c.st=[]):∀a,a<=b.length->fQ b k (fun m=>c.on.getD m OD=OQ/\a<=m) (cB lim b c a)/\kh {c with aF:=OD} (cB lim b c a)/\(cB lim b c a).st=[]:=by intro a;induction a with|zero=>intro _;refine⟨⟨h.len,h.aC,h.aT,fun _ m d _ f=>absurd ⟨d,OV _⟩ f⟩,.refl _,o⟩|succ a p=>intro B;obtain⟨d,g,f⟩:=p Oq;(have e:cB lim b c (a+1)=gs lim b (cB lim b c a) a:=by simp[cB,Ri]);rw[e];generalize cB lim b c a=n at d g f⊢;unfold gs;by_cases i:n.on.getD a OD=OQ;(·rw[Pa i];obtain⟨q,r,s⟩:=m5 (lim:=lim) (b.getD a []) d (l a) (fun x t=>(d.aC a i).next t);(have u:fQ b k (fun m=>c.on.getD m OD=OQ/\a+1<=m) (d8 lim n (b.getD a [])):=q.mono fun _ m _⟨j,v⟩=>by by_cases e:m=a;(·exact Pu (e▸s));·exact O4 ⟨j,Oq⟩);obtain⟨w,y,z⟩:=nz (lim:=lim) l u;exact⟨w,(g.trans r).trans y,z⟩);·rw[O3 i];refine⟨d.mono fun _ m _⟨j,v⟩=>?_,g,f⟩;by_cases e:m=a;(·exact absurd (g.on m j) (e▸i));·exact O4 ⟨j,Oq⟩
theorem tB{a}{d}{lim:Int}{b}(g:gR a)(h:fQ a d (fun _=>True) b)(i:b.st=[]):fQ a d (fun _=>False) (dM lim a b)/\(∀c,b.on.getD c OD=OQ->(dM lim a b).on.getD c OD=OQ)/\(dM lim a b).st=[]/\((dM lim a b).aF=OQ->en (dM lim a b)<en b):=by obtain⟨j,e,l⟩:=pA (lim:=lim) g h i a.length (Ox _);refine⟨j.mono fun _ c _⟨p,m⟩=>?_,e.on,l,fun n=>?_⟩;(·(have o:a.getD c []=[]:=by rw[OL,Qh m];rfl);exact Pu fun k f=>by rw[o]at f;cases f);·rcases e.lt n with h|h;(·cases h);·exact h
theorem fQ.bg{a}{b}{d}{c}(h:fQ a b d c):fQ a b (fun _=>True) c:=h.mono fun _ _ _ _=>O4 Pk
theorem tz{e}{b}{a}(h:fQ e b (fun _=>False) a)(f:a.st=[])(g:a.aF=OD)(hr:∀c∈b,a.on.getD c OD=OQ)(d):a.on.getD d OD=OQ↔fT e b d:=⟨h.aC d,fun i=>i _ hr fun m c j k=>h.cl g m j (by simp[f]) (fun h=>h) c k⟩
theorem wj(b)(c):fQ b c (fun _=>False) (dL b.length):=by(have h0:∀a,(dL b.length).on.getD a OD=OD:=fun a=>by simp only[dL,OL,RU];split<;>rfl);exact⟨by simp[dL],fun a h=>absurd ((h0 a).symm.trans h) Om,fun a h=>absurd h (by simp[dL]),fun _ a h=>absurd ((h0 a).symm.trans h) Om⟩
def rE(c:List (List Nat))(b:List Nat)(a:dZ):Prop:=fQ c b (fun _=>False) a/\a.st=[]/\∀d∈b,a.on.getD d OD=OQ
theorem ws{a}{r}{lim:Int}(c:gR a)(hr:h1 a.length r):rE a r (df lim a (d8 lim (dL a.length) r)):=by obtain⟨d,_,e⟩:=m5 (lim:=lim) r (wj a r) hr (fun x b=>fT.root b);obtain⟨f,g,i⟩:=nz (lim:=lim) c d;exact⟨f,i,fun x b=>g.on x (e x b)⟩
theorem tC{a}{c}{lim:Int}{b}(d:gR a)(h:rE a c b):rE a c (dM lim a b)/\((dM lim a b).aF=OQ->en (dM lim a b)<en b):=by obtain⟨e,f,g,i⟩:=tB (lim:=lim) d h.1.bg h.2.1;exact⟨⟨e,g,fun x j=>f x (h.2.2 x j)⟩,i⟩
theorem rE.done{c}{d}{a}(h:rE c d a)(e:a.aF=OD)(b):a.on.getD b OD=OQ↔fT c d b:=tz h.1 h.2.1 e h.2.2 b
theorem fT.lt{a}{b}(d:gR a)(hr:h1 a.length b){c}(h:fT a b c):c<a.length:=h _ hr fun m x _ e=>d m x e
def hu(a:List (Nat×Nat))(b:Nat):Bool:=a.any fun x=>x.1==b
theorem ny(a)(b):hu a b=OQ↔b∈a.map (·.1):=by simp only[hu,Tt,Pf,SD]
def fa(c:Nat)(a:List (Nat×Nat))(b:Nat):List (Nat×Nat):=if hu a b=OQ then a else a++[(b,c)]
def dW(a:Nat)(b:List (Nat×Nat))(c:List Nat):List (Nat×Nat):=c.foldl (fa a) b
def cd(a:List (List Nat))(b:List Nat):Nat->List (Nat×Nat)|0=>dW 0 [] b|c+1=>match(cd a b c)[c]? with|Y=>cd a b c|Z x=>dW (x.2+1) (cd a b c) (a.getD x.1 [])
theorem tG(b)(a)(c):a<+:fa b a c:=by unfold fa;split;(·exact U5 _);·exact List.prefix_append ..
theorem jq(c)(b):∀a,a<+:dW c a b:=by induction b with|nil=>exact fun _=>U5 _|cons d b e=>exact fun a=>(tG c a d).trans (e _)
theorem tH(c)(b)(a):a∈(fa c b a).map (·.1):=by unfold fa;split;(·rename_i h;exact(ny b a).1 h);·simp
theorem lZ(c)(a):∀d,∀b∈a,b∈(dW c d a).map (·.1):=by induction a with|nil=>exact fun _ _ h=>by cases h|cons g a f=>intro d b e;rcases Pc.1 e with rfl|e;(·exact((jq c a (fa c d b)).map (·.1)).subset (tH c d b));·exact f _ b e
theorem jr(d)(b):∀c,∀a∈dW d c b,a∈c\/(a.1∈b/\a.2=d):=by induction b with|nil=>exact fun _ _ h=>O4 h|cons e b f=>intro c a g;rcases f (fa d c e) a g with h|h;(·unfold fa at h;split at h;(·exact O4 h);·rcases PU.1 h with h|h;(·exact O4 h);·rw[OH.1 h];exact Pu ⟨PQ ..,rfl⟩);·exact Pu ⟨P3 _ h.1,h.2⟩
theorem hZ(f)(b):∀a,(a.map (·.1)).Nodup->((dW f a b).map (·.1)).Nodup:=by induction b with|nil=>exact fun _ h=>h|cons g b i=>intro a h;refine i _ ?_;unfold fa;split;(·exact h);·rename_i j;rw[SN,List.nodup_append];refine⟨h,On,fun x c y d e=>?_⟩;simp at d;rw[e,d]at c;exact j ((ny a g).2 c)
structure Lz(g:List (List Nat))(r:List Nat)(i:Nat)(Q:List (Nat×Nat)):Prop where
 nd:(Q.map (·.1)).Nodup
 aC:∀x∈Q,fT g r x.1/\x.2<=i
 rt:∀n∈r,n∈Q.map (·.1)
 cl:∀j x,j<i->Q[j]?=Z x->∀k∈g.getD x.1 [],k∈Q.map (·.1)
theorem jm(e)(g)(c):Lz e g c (cd e g c):=by induction c with|zero=>refine⟨hZ _ _ _ On,fun a f=>?_,lZ _ _ _,fun d _ h=>Oq⟩;rcases jr _ _ _ a f with h|h;(·cases h);·exact⟨.root h.1,Oq⟩|succ c b=>simp only[cd];cases f:(cd e g c)[c]? with|none=>refine⟨b.nd,fun a h=>⟨(b.aC a h).1,Wn (b.aC a h).2⟩,b.rt,fun d a r h=>?_⟩;by_cases l:d<c;(·exact b.cl d a l h);·have:d=c:=Oq;rw[this,f]at h;cases h|some a=>simp only;have p:=ON f;have j:=jq (a.2+1) (e.getD a.1 []) (cd e g c);refine⟨hZ _ _ _ b.nd,fun y i=>?_,fun n s=>(j.map _).subset (b.rt n s),fun d y r i k q=>?_⟩;(·rcases jr _ _ _ y i with h|h;(·exact⟨(b.aC y h).1,Wn (b.aC y h).2⟩);·exact⟨(b.aC a p).1.next h.1,by have:=(b.aC a p).2;omega⟩);·by_cases l:d=c;(·subst l;(have:(dW (a.2+1) (cd e g d) (e.getD a.1 []))[d]?=Z a:=by have m:=(OA.1 f).1;obtain⟨t,o⟩:=j;rw[<-o,QJ m,f]);rw[this]at i;cases i;exact lZ _ _ _ k q);·by_cases m:d<(cd e g c).length;(·have u:=j;obtain⟨t,o⟩:=u;rw[<-o,QJ m]at i;exact(j.map _).subset (b.cl d y Oq i k q));·exfalso;have:=(OA.1 f).1;omega
theorem g2{a}{b}(d:gR a)(hr:h1 a.length b)(c):(cd a b c).length<=a.length:=by have h:=jm a b c;(have:((cd a b c).map (·.1)).length<=(Qj a.length).length:=by refine T7 h.nd fun n e=>?_;obtain⟨f,g,rfl⟩:=Pf.1 e;exact Qg.2 ((h.aC f g).1.lt d hr));simpa using this
theorem ty{g}{r}{i}{a}(h:(cd g r i)[i]?=Z a):cd g r (i+1)=dW (a.2+1) (cd g r i) (g.getD a.1 []):=by simp only[cd,h]
theorem wh{a}{b}{c}(h:(cd a b c).length<=c)(i):i∈(cd a b c).map (·.1)↔fT a b i:=by have d:=jm a b c;refine⟨fun e=>?_,fun e=>e _ d.rt fun m f k g=>?_⟩;(·obtain⟨f,g,rfl⟩:=Pf.1 e;exact(d.aC f g).1);·obtain⟨l,n,rfl⟩:=Pf.1 k;obtain⟨o,j⟩:=Qn n;have:=(OA.1 j).1;exact d.cl o l Oq j f g
open Classical in noncomputable def bW(a:List (List Nat))(b:List Nat):List Nat:=(Qj a.length).filter fun n=>decide (fT a b n)
theorem pG{a}{b}(d:gR a)(hr:h1 a.length b)(c):c∈bW a b↔fT a b c:=by simp only[bW,QF,Qg,PD];exact⟨fun h=>h.2,fun h=>⟨h.lt d hr,h⟩⟩
theorem qs(a)(b):(bW a b).Pairwise (·<·):=List.Pairwise.filter _ List.pairwise_lt_range
theorem lU:∀{d b:List Nat},d.Pairwise (·<·)->b.Pairwise (·<·)->(∀c,c∈d↔c∈b)->d=b:=by intro d;induction d with|nil=>intro b _ _ h;(cases b with|nil=>rfl|cons e b=>exact absurd ((h e).2 (PQ ..)) On)|cons c d k=>intro b l hb h;cases b with|nil=>exact absurd ((h c).1 (PQ ..)) On|cons e b=>obtain⟨i,m⟩:=Rp.1 l;obtain⟨j,n⟩:=Rp.1 hb;(have a:c=e:=by rcases Pc.1 ((h c).1 (PQ ..))with a|a;(·exact a);·rcases Pc.1 ((h e).2 (PQ ..))with g|g;(·exact g.symm);·have:=j c a;have:=i e g;omega);subst a;rw[k m n fun z=>⟨fun f=>?_,fun f=>?_⟩];(·rcases Pc.1 ((h z).1 (P3 _ f))with a|a;(·have:=i z f;omega);·exact a);·rcases Pc.1 ((h z).2 (P3 _ f))with a|a;(·have:=j z f;omega);·exact a
def k7(a:List Bool):List Nat:=(Qj a.length).filter fun n=>a.getD n OD
open Classical in theorem pE{b}{c}{a}(h:rE b c a)(d:a.aF=OD):k7 a.on=bW b c:=by unfold k7 bW;rw[h.1.len];refine Sl fun n _=>?_;rw[QR,PD];exact h.done d n
abbrev cj:=Nat->Int
def bV:N8:=(-1,0,0)
structure cQ where
 st:List Nat
 tb:List cj
 mn:N8
 ov:N8
def dy(a:Nat):Nat:=a%4096/128
def iX(b:cj):Prop:=∀a,a<32->cp b a=OD
def f2(b:cj):Prop:=∃a,a<32/\cp b a=OD
def hE(b:cj):Prop:=∃a,a<32/\cp b a=OQ
structure fs(st:List Nat)(tb:List cj):Prop where
 l1:1<=st.length
 l2:st.length<=32
 eq:tb.length=st.length
 aE:∀b s:Nat,st[b]?=Z s->s<=5
 whole:∀b:Nat,st[b]?=Z 4->∃c,b=c+1/\(st[c]?=Z 3\/st[c]?=Z 4)
 aH:∀(b:Nat)(z:cj),tb[b]?=Z z->c6 z=OQ
 aL:∀(b s:Nat)(z:cj),st[b]?=Z s->tb[b]?=Z z->(s=0\/s=3\/s=4)->iX z
 aW:∀(b:Nat)(z:cj),st[b]?=Z 1->tb[b]?=Z z->f2 z/\hE z
structure hf(st:List Nat)(tb:List cj)(c:N8):Prop where
 aM:iP c.1 c.2.1 c.2.2
 held:st[c.1.toNat]?=Z 5
 free:∀z,tb[c.1.toNat]?=Z z->∀x:Nat,c.2.1<=(x:Int)->(x:Int)<c.2.2->cp z (dy x)=OD
structure ei(S:cQ):Prop where
 pr:fs S.st S.tb
 mn:S.mn=bV\/hf S.st S.tb S.mn
 ov:S.ov=bV\/hf S.st S.tb S.ov
 ne:S.mn≠bV->S.mn.1≠S.ov.1
 only:∀b:Nat,S.st[b]?=Z 5->S.mn.1=(b:Int)\/S.ov.1=(b:Int)
def pL(c:cj)(b d:Nat):Prop:=∀a,b<=a->a<b+d->cp c (dy a)=OQ
def m6(c:cj)(d:N8)(b e:Nat):Prop:=∀a:Nat,b<=a->a<b+e->cp c (dy a)=OQ\/(a:Int)<d.2.1
def tO(b:cQ)(a c:Nat):Prop:=a/4096=(a+c-1)/4096/\∃d,b.tb[a/4096]?=Z d/\((b.st[a/4096]?=Z 1/\pL d a c)\/b.st[a/4096]?=Z 2\/(b.st[a/4096]?=Z 5/\((b.mn.1=((a/4096:Nat):Int)/\m6 d b.mn a c)\/(b.ov.1=((a/4096:Nat):Int)/\m6 d b.ov a c))))
def tP(st:List Nat)(b c:Nat):Prop:=b%4096=0/\∀a,4096*a<c->st[b/4096+a]?=Z (if a=0 then 3 else 4)
def gv(b:cQ)(c a:Nat):Prop:=(a<=2048->tO b c a)/\(2048<a->tP b.st c a)
def cQ.swap(a:cQ):cQ:={a with mn:=a.ov,ov:=a.mn}
theorem rC{st}{b}{a}(h:hf st b a):a≠bV:=fun e=>by have:=h.aM;rw[e]at this;have:(0:Int)<=-1:=this.1;omega
theorem ei.ne'{b:cQ}(h:ei b)(d:b.ov≠bV):b.ov.1≠b.mn.1:=by rcases h.mn with c|c;(·rcases h.ov with a|a;(·exact absurd a d);·have:=a.aM.1;rw[c];show _≠(-1:Int);omega);·exact fun a=>h.ne (rC c) a.symm
theorem ei.swap{a:cQ}(h:ei a):ei a.swap:=⟨h.pr,h.ov,h.mn,h.ne',fun b hb=>(h.only b hb).symm⟩
theorem tO.swap{c}{a d}(h:tO c a d):tO c.swap a d:=by obtain⟨e,f,g,i⟩:=h;exact⟨e,f,g,i.imp id (Or.imp id fun⟨a,b⟩=>⟨a,b.symm⟩)⟩
theorem gv.swap{a}{b c}(h:gv a b c):gv a.swap b c:=⟨fun k=>(h.1 k).swap,h.2⟩
theorem dt{st:List Nat}{a c b:Nat}(hb:a<st.length):(st.set a c)[b]?=if b=a then Z c else st[b]?:=by rw[Sk];by_cases h:a=b;(·subst h;simp[hb]);·rw[O3 h,O3 (fun e=>h e.symm)]
theorem cM{a:Type}{b:List a}{c}{d:a}(h:b[c]?=Z d):c<b.length:=(OA.1 h).1
structure kQ(S S':cQ):Prop where
 sr:ei S'
 len:S'.st.length=S.st.length
 aO:∀a m,1<=m->gv S a m->gv S' a m
structure gu(S:cQ)(n:Nat)(S':cQ)(p:Nat):Prop where
 sr:ei S'
 len:S'.st.length=S.st.length
 a8:p%8=0
 bj:p+n<=4096*S.st.length
 ax:gv S' p n
 aO:∀a m,1<=m->gv S a m->gv S' a m/\(a+m<=p\/p+n<=a)
theorem kQ.trans{c d e:cQ}(h:kQ c d)(b:kQ d e):kQ c e:=⟨b.sr,b.len.trans h.len,fun a m f g=>b.aO a m f (h.aO a m f g)⟩
theorem kQ.put{c d e}{f g}(h:kQ c d)(b:gu d f e g):gu c f e g:=⟨b.sr,b.len.trans h.len,b.a8,h.len▸b.bj,b.ax,fun a m i j=>b.aO a m i (h.aO a m i j)⟩
theorem kQ.swap{b c}(h:kQ b.swap c):kQ b c.swap:=⟨h.sr.swap,h.len,fun a m d e=>(h.aO a m d e.swap).swap⟩
theorem gu.swap{b c}{d e}(h:gu b.swap d c e):gu b d c.swap e:=⟨h.sr.swap,h.len,h.a8,h.bj,h.ax.swap,fun a m f g=>⟨(h.aO a m f g.swap).1.swap,(h.aO a m f g.swap).2⟩⟩
theorem tP.in{st}{b d a}(h:tP st b d)(hb:b/4096<=a)(g:4096*a<b+d):st[a]?=Z 3\/st[a]?=Z 4:=by obtain⟨i,e⟩:=h;obtain⟨c,rfl⟩:∃c,a=b/4096+c:=⟨a-b/4096,Oq⟩;have f:4096*c<d:=Oq;have:=e c f;split at this;(·exact O4 this);·exact Pu this
theorem m6.bG{a}{d}{b c}(h:pL a b c):m6 a d b c:=fun x e f=>O4 (h x e f)
theorem jn{b:cQ}(h:ei b)(g:Nat)(v:1<=g)(V:g%8=0)(w:g<=2048)(hc:b.mn≠bV)(hr:b.mn.2.1+(g:Int)<=b.mn.2.2):∃c:Nat,b.mn.2.1=(c:Int)/\gu b g {b with mn:=(b.mn.1,b.mn.2.1+(g:Int),b.mn.2.2)} c:=by
 have l:hf b.st b.tb b.mn:=h.mn.resolve_left hc;have n:=h.ne hc;obtain⟨o,p,y,q,z,B,r⟩:=l.aM;have d:=l.held;obtain⟨⟨W,I,K⟩,k⟩:∃s,b.mn=s:=⟨_,rfl⟩;rw[k]at l n o p y q z B r d hr;simp only at n o p y q z B r d hr⊢;rw[k];simp only;obtain⟨i,rfl⟩:=Sn o;obtain⟨c,rfl⟩:=Sn (show 0<=I by omega);simp only[QY]at d;have L:=cM d;have M:i<b.tb.length:=by rw[h.pr.eq];exact L
 have t:=l.free;simp only[QY]at t;have u:c/4096=i:=Oq;have N:hf b.st b.tb ((i:Int),(c:Int)+(g:Int),K):=⟨⟨o,p,by simp only;omega,q,by simp only;omega,by simp only;omega,r⟩,by simpa using d,fun j O x C P=>t j (by simpa using O) x (by simp only at C;omega) P⟩;refine⟨c,rfl,⟨h.pr,Pu N,h.ov,fun _=>n,fun s Q=>?_⟩,rfl,Oq,Oq,⟨fun _=>⟨Oq,?_⟩,fun h=>Oq⟩,fun a m X E=>?_⟩;·have:=h.only s Q;rw[k]at this;exact this
 ·refine⟨b.tb[i],by rw[u];exact Oz M,Pu (Pu ⟨by rw[u];exact d,O4 ⟨by rw[u],fun x _ C=>Pu (by simp only;omega)⟩⟩)⟩
 ·by_cases R:m<=2048;(·obtain⟨c1,j,c2,c3⟩:=E.1 R;by_cases e:a/4096=i;(·rw[e]at c2 c3;rcases c3 with⟨c3,_⟩|c3|⟨_,c3⟩;(·rw[d]at c3;cases c3);(·rw[d]at c3;cases c3);·(have c4:m6 j b.mn a m:=by rcases c3 with c3|c3;(·exact c3.2);·exact absurd c3.1.symm n);rw[k]at c4;(have S:a+m<=c\/c+g<=a:=by rcases Rg c (a+m)with F|F;(·rcases Rg a (c+g)with H|H;(·exfalso;rcases c4 (max a c) Oq Oq with f|f;(·rw[(t j c2 (max a c) Oq Oq)]at f;cases f);·simp only at f;omega);·exact Pu H);·exact O4 F);refine⟨⟨fun _=>⟨c1,j,by rw[e];exact c2,Pu (Pu ⟨by rw[e];exact d,O4 ⟨by rw[e],fun x v w=>?_⟩⟩)⟩,fun h=>Oq⟩,S⟩;rcases c4 x v w with f|f;(·exact O4 f);·exact Pu (by simp only at f⊢;omega));·refine⟨⟨fun _=>⟨c1,j,c2,?_⟩,fun h=>Oq⟩,Oq⟩;rcases c3 with c3|c3|⟨c3,c4⟩;(·exact O4 c3);(·exact Pu (O4 c3));·refine Pu (Pu ⟨c3,Pu ?_⟩);rcases c4 with c4|c4;(·rw[k]at c4;exact absurd (Int.ofNat.inj c4.1).symm e);·exact c4);·have hl:=E.2 Oq;refine⟨⟨fun h=>Oq,fun _=>hl⟩,?_⟩;rcases Rg (a/4096) i with T|T;(·rcases Rg (4096*i) (a+m)with f|f;(·rcases hl.in Oq f with e|e<;>(rw[d]at e;cases e));·omega);·by_cases e:a/4096=i;(·have:=hl.2 0 Oq;simp only[TT,Ub]at this;rw[e,d]at this;cases this);·omega
theorem fs.put{st}{i}(h:fs st i){j b d}(k:st[j]?=Z b)(l:b≠3)(m:b≠4)(p:d=2\/d=5):fs (st.set j d) i:=by
 have hb:=cM k;refine⟨by simpa using h.l1,by simpa using h.l2,by simpa using h.eq,fun c f hc=>?_,fun c hc=>?_,h.aH,fun c f z hc g n=>?_,fun c z hc g=>?_⟩;·rw[dt hb]at hc;split at hc;(·cases hc;omega);·exact h.aE c f hc
 ·rw[dt hb]at hc;split at hc;(·cases hc;omega);·obtain⟨o,rfl,a⟩:=h.whole c hc;refine⟨o,rfl,?_⟩;rw[dt hb];split;(·rename_i e;rw[e,k]at a;rcases a with a|a<;>(cases a;first|exact absurd rfl l|exact absurd rfl m));·exact a
 ·rw[dt hb]at hc;split at hc;(·cases hc;omega);·exact h.aL c f z hc g n
 ·rw[dt hb]at hc;split at hc;(·cases hc;omega);·exact h.aW c z hc g
theorem tI{b x0 x1 y}(a:4096*b+x0*128<=y)(c:y<4096*b+x1*128)(d:x1<=32):x0<=dy y/\dy y<x1:=by unfold dy;omega
theorem pM{st}{e}{b:Nat}{f:cj}{a:Nat×Nat}(hb:st[b]?=Z 5)(hl:b<32)(g:e[b]?=Z f)(m:a.1<a.2)(i:a.2<=32)(j:∀c,a.1<=c->c<a.2->cp f c=OD):hf st e (nk (b:Int) a):=by refine⟨⟨by simp only[nk];omega,by simp only[nk];omega,by simp only[nk];omega,by simp only[nk];omega,by simp only[nk];omega,by simp only[nk];omega,by simp only[nk];omega⟩,by simpa[nk]using hb,fun y d c k l=>?_⟩;simp only[nk,QY]at d k l;rw[g]at d;cases d;have:=tI (b:=b) (x0:=a.1) (x1:=a.2) (y:=c) Oq Oq i;exact j _ this.1 this.2
theorem yz{b}(h:ei b){z}(j:b.tb[b.mn.1.toNat]?=Z z){c}(hc:ia (fun f=>(cu (cp z) (ie f)).head?) b.mn=Z c):kQ b {b with mn:=c}/\c≠bV/\c.2.1+128<=c.2.2:=by obtain⟨⟨Q,R,p⟩,g⟩:∃c,b.mn=c:=⟨_,rfl⟩;rw[g]at j hc;simp only[ia]at hc j;split at hc;(·rename_i w;obtain⟨q,x,S,T,V,W,X⟩:=w;obtain⟨i,rfl⟩:=Sn q;(have r:b.mn≠bV:=fun e=>by rw[g]at e;have:(i:Int)=-1:=Pl (·.1) e;omega);have l:=(h.mn.resolve_left r).held;rw[g]at l;simp only[QY]at l j;simp only[zf,Pa (show(0:Int)<=(i:Int)/\(i:Int)<32 from⟨q,x⟩)]at hc;cases n:cu (cp z) (ie (ic (i:Int) p))with|nil=>rw[n]at hc;simp at hc|cons o B=>
 rw[n]at hc;simp only[List.head?_cons,QX]at hc;cases hc;obtain⟨C,E,F,_,H,_⟩:=jU (cp z) 32 _ Oq o B n;have s:hf b.st b.tb (nk (i:Int) o):=pM l Oq j E F H;have hL:p<=4096*(i:Int)+(o.1:Int)*128:=by simp only[ie,ic]at C;omega
 refine⟨⟨⟨h.pr,Pu s,h.ov,fun _=>?_,fun d I=>?_⟩,rfl,fun a m hm t=>⟨fun K=>?_,t.2⟩⟩,rC s,by simp only[nk];omega⟩;·have:=h.ne r;rw[g]at this;exact this
 ·have:=h.only d I;rw[g]at this;exact this
 ·obtain⟨c1,L,c2,c3⟩:=t.1 K;refine⟨c1,L,c2,c3.imp id (Or.imp id fun⟨M,N⟩=>⟨M,N.imp (fun⟨u,v⟩=>?_) id⟩)⟩;rw[g]at u v;refine⟨u,fun y O P=>(v y O P).imp id fun k=>?_⟩;simp only[nk]at k⊢;omega);·cases hc
def cD(st:List Nat)(a:N8):List Nat:=if a=bV then st else st.set a.1.toNat 2
theorem iD(st)(a):(cD st a).length=st.length:=by unfold cD;split<;>simp
theorem kP{st}{f}{a}(h:a=bV\/hf st f a)(d:Nat):(cD st a)[d]?=if a≠bV/\a.1=(d:Int)then Z 2 else st[d]?:=by unfold cD;by_cases b:a=bV;(·rw[Pa b,O3 (fun c=>c.1 b)]);·rw[O3 b];have e:=h.resolve_left b;have h0:=e.aM.1;rw[dt (cM e.held)];by_cases c:d=a.1.toNat;(·rw[Pa c,Pa ⟨b,Oq⟩]);·rw[O3 c,O3 (fun g=>c Oq)]
theorem l6{st}{b}{a}(d:fs st b)(h:a=bV\/hf st b a):fs (cD st a) b:=by unfold cD;by_cases c:a=bV;(·rw[Pa c];exact d);·rw[O3 c];exact d.put (h.resolve_left c).held Oq Oq (O4 rfl)
theorem pD{c:cQ}(h:ei c){b n:Nat}{j}(hb:(cD c.st c.mn)[b]?=Z n)(x:n=0\/n=1)(q:c.tb[b]?=Z j):∃g,(cu (cp j) 0).head?=Z g/\kQ c {c with st:=(cD c.st c.mn).set b 5,mn:=nk (b:Int) g}/\g.1<g.2/\g.2<=32:=by
 have o:=l6 h.pr h.mn;have y:=cM hb;have z:b<32:=by have:=o.l2;omega
 have B:f2 j:=by rcases x with rfl|rfl;(·exact⟨0,Oq,o.aL b 0 j hb q (O4 rfl) 0 Oq⟩);·exact(o.aW b j hb q).1
 have r:c.st[b]?=Z n/\¬(c.mn≠bV/\c.mn.1=(b:Int)):=by rw[kP h.mn]at hb;split at hb;(·cases hb;omega);·rename_i d;exact⟨hb,d⟩
 have C:c.ov.1≠(b:Int):=fun e=>by rcases h.ov with d|d;(·rw[d]at e;have:(-1:Int)=(b:Int):=e;omega);·have:=d.held;rw[e,QY,r.1]at this;cases this;omega
 cases s:cu (cp j) 0 with|nil=>obtain⟨E,F,H⟩:=B;have:=xA (cp j) 32 0 Oq s E Oq F;rw[H]at this;cases this|cons g I=>obtain⟨P,t,u,_,K,_⟩:=jU (cp j) 32 _ Oq g I s;(have k:∀i,((cD c.st c.mn).set b 5)[i]?=if i=b then Z 5 else if c.mn≠bV/\c.mn.1=(i:Int)then Z 2 else c.st[i]?:=fun i=>by rw[dt y,kP h.mn]);refine⟨g,rfl,⟨⟨(show fs ((cD c.st c.mn).set b 5) c.tb from o.put hb Oq Oq (Pu rfl)),Pu (show hf ((cD c.st c.mn).set b 5) c.tb (nk (b:Int) g)from pM (by rw[k,Pa rfl]) z q t u K),?_,fun _=>fun e=>C e.symm,fun i hc=>?_⟩,by simp[iD],fun a m Q v=>⟨fun L=>?_,fun hl=>?_⟩⟩,t,u⟩;(·rcases h.ov with d|d;(·exact O4 d);·refine Pu ⟨d.aM,?_,d.free⟩;have R:=d.aM.1;have:c.mn≠bV->c.mn.1≠c.ov.1:=h.ne;show((cD c.st c.mn).set b 5)[c.ov.1.toNat]?=Z 5;rw[k,O3 Oq,O3 (fun f=>this f.1 Oq)];exact d.held);(·have l:((cD c.st c.mn).set b 5)[i]?=Z 5:=hc;rw[k]at l;split at l;(·rename_i e;exact O4 (by rw[e];rfl));·split at l;(·cases l);·rename_i d;rcases h.only i l with f|f;(·by_cases e:c.mn=bV;(·rw[e]at f;have:(-1:Int)=(i:Int):=f;omega);·exact absurd ⟨e,f⟩ d);·exact Pu f);(·obtain⟨c1,p,c2,c3⟩:=v.1 L;refine⟨c1,p,c2,?_⟩;show((((cD c.st c.mn).set b 5)[a/4096]?=Z 1/\pL p a m)\/((cD c.st c.mn).set b 5)[a/4096]?=Z 2\/(((cD c.st c.mn).set b 5)[a/4096]?=Z 5/\(((nk (b:Int) g).1=((a/4096:Nat):Int)/\m6 p (nk (b:Int) g) a m)\/(c.ov.1=((a/4096:Nat):Int)/\m6 p c.ov a m))));rw[k];by_cases e:a/4096=b;(·rw[Pa e];refine Pu (Pu ⟨rfl,O4 ⟨by rw[e];rfl,?_⟩⟩);rw[e,r.1]at c3;rcases c3 with⟨_,c3⟩|c3|⟨c3,_⟩;(·exact .bG c3);(·cases c3;omega);·cases c3;omega);·rw[O3 e];by_cases d:c.mn≠bV/\c.mn.1=((a/4096:Nat):Int);(·rw[Pa d];exact Pu (O4 rfl));·rw[O3 d];rcases c3 with c3|c3|⟨c3,c4|c4⟩;(·exact O4 c3);(·exact Pu (O4 c3));(·exfalso;refine d ⟨fun f=>?_,c4.1⟩;rw[f]at c4;have:(-1:Int)=((a/4096:Nat):Int):=c4.1;omega);·exact Pu (Pu ⟨c3,Pu c4⟩));·obtain⟨M,N⟩:=v.2 hl;refine⟨M,fun w O=>?_⟩;have f:=N w O;show((cD c.st c.mn).set b 5)[a/4096+w]?=_;rw[k];rw[O3 (fun e=>by rw[e,r.1]at f;split at f<;>(cases f;omega)),O3 (fun d=>?_)];(·exact f);·have:=(h.mn.resolve_left d.1).held;rw[d.2,QY,f]at this;split at this<;>cases this
def hX(a c b d:Nat):Nat:=if b=a then 3 else if a<b/\b<a+c then 4 else d
def cn(st:List Nat)(a b:Nat):List Nat:=(Qj st.length).map fun c=>hX a b c (st.getD c 0)
theorem eK(st)(a b):(cn st a b).length=st.length:=by simp[cn]
theorem fg(st)(b c a):(cn st b c)[a]?=(st[a]?).map (hX b c a):=by unfold cn;by_cases h:a<st.length;(·rw[PM,Ux h,Oz h];simp[Oz h]);·rw[Qh Ol,Qh Oq];rfl
theorem e3{st}{a d b}(h:a<=b/\b<a+d)(hl:a+d<=st.length):(cn st a d)[b]?=Z (if b=a then 3 else 4):=by rw[fg,Oz Oq];simp only[QX,hX];by_cases c:b=a;(·rw[Pa c,Pa c]);·rw[O3 c,O3 c,Pa Oq]
theorem eJ{st}{b c a}(h:a<b\/b+c<=a)(d:1<=c):(cn st b c)[a]?=st[a]?:=by rw[fg];cases e:st[a]? with|none=>rfl|some f=>simp only[QX,hX];rw[O3 Oq,O3 Oq]
theorem lT{st}{i}(h:fs st i){b c}(e:1<=c)(hl:b+c<=st.length)(h0:∀j,j<c->st[b+j]?=Z 0):fs (cn st b c) i:=by
 have k:∀a,b<=a->a<b+c->st[a]?=Z 0:=fun a o p=>by have:=h0 (a-b) Oq;rwa[show b+(a-b)=a by omega]at this
 refine⟨by rw[eK];exact h.l1,by rw[eK];exact h.l2,by rw[eK];exact h.eq,fun a s hc=>?_,fun a hc=>?_,h.aH,fun a s z hc f l=>?_,fun a z hc f=>?_⟩;·by_cases d:b<=a/\a<b+c;(·rw[e3 d hl]at hc;split at hc<;>(cases hc;omega));·rw[eJ Oq e]at hc;exact h.aE a s hc
 ·by_cases d:b<=a/\a<b+c;(·rw[e3 d hl]at hc;split at hc;(·cases hc);·refine⟨a-1,Oq,?_⟩;rw[e3 Oq hl];split;(·exact O4 rfl);·exact Pu rfl);·rw[eJ Oq e]at hc;obtain⟨g,rfl,m⟩:=h.whole a hc;refine⟨g,rfl,?_⟩;by_cases n:b<=g/\g<b+c;(·rw[e3 n hl];split;(·exact O4 rfl);·exact Pu rfl);·rw[eJ Oq e];exact m
 ·by_cases d:b<=a/\a<b+c;(·exact h.aL a 0 z (k a d.1 d.2) f (O4 rfl));·rw[eJ Oq e]at hc;exact h.aL a s z hc f l
 ·by_cases d:b<=a/\a<b+c;(·rw[e3 d hl]at hc;split at hc<;>cases hc);·rw[eJ Oq e]at hc;exact h.aW a z hc f
theorem jo{st}{a c b d}(f:1<=c)(h0:∀e,e<c->st[a+e]?=Z 0)(hc:st[b]?=Z d)(g:d≠0):(b<a\/a+c<=b)/\(cn st a c)[b]?=Z d:=by(have:b<a\/a+c<=b:=by by_cases i:a<=b/\b<a+c;(·have:=h0 (b-a) Oq;rw[show a+(b-a)=b by omega,hc]at this;cases this;omega);·omega);exact⟨this,by rw[eJ this f];exact hc⟩
theorem Cl{d}(h:ei d){n f k}(I:2048<n)(K:k=(n+4095)/4096)(hl:f+k<=d.st.length)(h0:∀c,c<k->d.st[f+c]?=Z 0):gu d n {d with st:=cn d.st f k} (4096*f):=by have l:1<=k:=Oq;have q:∀e,(e=bV\/hf d.st d.tb e)->(e=bV\/hf (cn d.st f k) d.tb e):=fun e hc=>hc.imp id fun i=>⟨i.aM,(jo l h0 i.held Oq).2,i.free⟩;(have w:∀e g,(cn d.st f k)[e]?=Z g->g≠3->g≠4->d.st[e]?=Z g:=fun e g hc L M=>by by_cases x:f<=e/\e<f+k;(·rw[e3 x hl]at hc;split at hc<;>(cases hc;omega));·rwa[eJ Oq l]at hc);refine⟨⟨lT h.pr l hl h0,q _ h.mn,q _ h.ov,h.ne,fun b hb=>h.only b (w b 5 hb Oq Oq)⟩,eK _ _ _,Oq,Oq,⟨fun i=>Oq,fun _=>⟨Oq,fun c j=>?_⟩⟩,fun a m N r=>?_⟩;(·show(cn d.st f k)[4096*f/4096+c]?=_;rw[show 4096*f/4096=f by omega,e3 Oq hl];by_cases s:c=0;(·subst s;simp);·rw[O3 s,O3 Oq]);·by_cases y:m<=2048;(·obtain⟨c1,t,c2,c3⟩:=r.1 y;(have z:∃g,d.st[a/4096]?=Z g/\g≠0:=by rcases c3 with c3|c3|c3;(·exact⟨_,c3.1,Oq⟩);(·exact⟨_,c3,Oq⟩);·exact⟨_,c3.1,Oq⟩);obtain⟨g,u,B⟩:=z;obtain⟨O,C⟩:=jo l h0 u B;refine⟨⟨fun _=>⟨c1,t,c2,?_⟩,fun i=>Oq⟩,Oq⟩;show(((cn d.st f k)[a/4096]?=Z 1/\pL t a m)\/(cn d.st f k)[a/4096]?=Z 2\/((cn d.st f k)[a/4096]?=Z 5/\_));rw[C,<-u];exact c3);·have o:=r.2 Oq;have p:∀c,4096*c<m->(a/4096+c<f\/f+k<=a/4096+c)/\(cn d.st f k)[a/4096+c]?=Z (if c=0 then 3 else 4):=fun c j=>jo l h0 (o.2 c j) (by split<;>omega);refine⟨⟨fun i=>Oq,fun _=>⟨o.1,fun c j=>(p c j).2⟩⟩,?_⟩;have E:=p 0 Oq;have hc:=o.1;rcases E.1 with i|i;(·left;(have F:∀c,4096*c<m->a/4096+c<f:=by intro c;induction c with|zero=>exact fun _=>Oq|succ c H=>intro j;have P:=H Oq;rcases(p (c+1) j).1 with v|v;(·exact v);·have:=o.2 c Oq;omega);have:=F ((m-1)/4096) Oq;omega);·right;omega
abbrev cF:=Nat×Nat
structure eV(L:List cF)(N:Nat):Prop where
 one:∀e∈L,e.1<e.2/\e.2<=N/\e.1%8=0/\e.2%8=0
 pw:L.Pairwise fun a b=>a.2<=b.1
def de(a:List cF)(b:Nat):List cF:=a.filter fun e=>decide (e.2-e.1<=2048)&&decide (e.1/4096=b)
def dV(b:Nat)(c:cj)(a:cF):cj:=hJ c ((a.1:Int)-(b:Int)*4096) ((a.2:Int)-(a.1:Int))
def cy(b:List cF)(a:Nat):cj:=(de b a).foldl (dV a) fun _=>0
def fM(a:List cF)(b:Nat):Bool:=a.any fun e=>decide (e.1/4096=b)
def m3(a:cj):Bool:=(Qj 32).any fun b=>cp a b
def n8(a:cj):Bool:=(Qj 32).any fun b=>! cp a b
theorem pF(a):m3 a=OQ↔hE a:=by simp[m3,hE]
theorem nx(a):n8 a=OQ↔f2 a:=by simp[n8,f2]
theorem Co{a}(h:m3 a=OD):iX a:=fun b c=>by cases d:cp a b with|false=>rfl|true=>rw[(pF a).2 ⟨b,c,d⟩]at h;cases h
def er(a:cj):Nat:=if m3 a=OD then 0 else if n8 a=OQ then 1 else 2
def fD(st:List Nat):Nat->Nat->Nat|0,e=>e|n+1,e=>if st[e]?=Z 4 then fD st n (e+1)else e
def dz(st:List Nat)(a:Nat):Nat:=fD st st.length (a+1)
def dN(st:List Nat)(a:Nat):List Nat:=(Qj st.length).map fun c=>if a<=c/\c<dz st a then 0 else st.getD c 0
theorem nP(st):∀c a,a<=fD st c a/\(∀b,a<=b->b<fD st c a->st[b]?=Z 4)/\(st.length<=c+a->st[fD st c a]?≠Z 4):=by intro c;induction c with|zero=>exact fun a=>⟨Ox _,fun b e d=>by simp only[fD]at d;omega,fun h=>by simp only[fD];rw[Qh Oq];simp⟩|succ c f=>intro a;simp only[fD];split;(·rename_i h;obtain⟨e,d,g⟩:=f (a+1);refine⟨Oq,fun b hc i=>?_,fun hl=>g Oq⟩;by_cases j:b=a;(·rw[j];exact h);·exact d b Oq i);·rename_i h;exact⟨Ox _,fun b e d=>Oq,fun _=>h⟩
theorem h2(st)(a):a+1<=dz st a/\(∀b,a<b->b<dz st a->st[b]?=Z 4)/\st[dz st a]?≠Z 4:=by obtain⟨c,d,e⟩:=nP st st.length (a+1);exact⟨c,fun b hc f=>d b hc f,e Oq⟩
theorem eY(st)(a):(dN st a).length=st.length:=by simp[dN]
theorem f9(st)(b a):(dN st b)[a]?=(st[a]?).map fun s=>if b<=a/\a<dz st b then 0 else s:=by unfold dN;by_cases h:a<st.length;(·rw[PM,Ux h,Oz h];simp[Oz h]);·rw[Qh Ol,Qh Oq];rfl
def ds(c:List cF)(b:List Nat×List cj)(a:Nat):List Nat×List cj:=match b.1[a]? with|Z 3=>if fM c a=OQ then b else(dN b.1 a,b.2)|Z 1=>(b.1.set a (er (cy c a)),b.2.set a (cy c a))|Z 2=>(b.1.set a (er (cy c a)),b.2.set a (cy c a))|Z 5=>(b.1.set a (er (cy c a)),b.2.set a (cy c a))|_=>b
def dh(a:List cF)(b:List Nat×List cj)(c:Nat):List Nat×List cj:=(Qj c).foldl (ds a) b
def cq(b:List cF)(a:cQ):cQ:={st:=(dh b (a.st,a.tb) a.st.length).1,tb:=(dh b (a.st,a.tb) a.st.length).2,mn:=bV,ov:=bV}
theorem iW(a)(c)(b):dh a c (b+1)=ds a (dh a c b) b:=by simp[dh,Ri]
def eH(a:List cF)(b c:Nat):Nat:=if c=0 then 0 else if c=3 then(if fM a b=OQ then 3 else 0)else er (cy a b)
def fK(b:List cF)(c a:Nat)(d:cj):cj:=if a=0\/a=3\/a=4 then d else cy b c
structure ir(L:List cF)(st0:List Nat)(tb0:List cj)(k:Nat)(p:List Nat×List cj):Prop where
 len:p.1.length=st0.length
 head:∀c s,st0[c]?=Z s->s≠4->p.1[c]?=Z (if c<k then eH L c s else s)
 tail:∀c,st0[c+1]?=Z 4->p.1[c+1]?=Z (if p.1[c]?=Z 3\/p.1[c]?=Z 4 then 4 else 0)
 aH:∀(c s:Nat)(z:cj),st0[c]?=Z s->tb0[c]?=Z z->p.2[c]?=Z (if c<k then fK L c s z else z)
 aK:p.2.length=tb0.length
theorem eo(a):(er a=0/\iX a)\/(er a=1/\f2 a/\hE a)\/(er a=2/\(∀b,b<32->cp a b=OQ)):=by unfold er;by_cases h:m3 a=OD;(·rw[Pa h];exact O4 ⟨rfl,Co h⟩);·rw[O3 h];(have d:m3 a=OQ:=by simpa using h);by_cases c:n8 a=OQ;(·rw[Pa c];exact Pu (O4 ⟨rfl,(nx a).1 c,(pF a).1 d⟩));·rw[O3 c];refine Pu (Pu ⟨rfl,fun b e=>?_⟩);cases f:cp a b with|true=>rfl|false=>exact absurd ((nx a).2 ⟨b,e,f⟩) c
theorem ka(a):er a<=2:=by rcases eo a with h|h|h<;>omega
theorem eT(b:Nat){a:cj}(c)(h:c6 a=OQ):c6 (dV b a c)=OQ:=uX _ _ h
theorem iA(c)(a:List cF):∀b,c6 b=OQ->c6 (a.foldl (dV c) b)=OQ:=by induction a with|nil=>exact fun _ h=>h|cons d a e=>exact fun b h=>e _ (eT c d h)
theorem gU:c6 (fun _=>0)=OQ:=qT fun _ _=>Oq
theorem kN(b)(a):c6 (cy b a)=OQ:=iA a _ _ gU
theorem ir.four{e}{b}{d}{f}{c}(h:ir e b d f c)(h0:fs b d){a:Nat}(hc:b[a]?=Z 4):c.1[a]?=Z 4\/c.1[a]?=Z 0:=by obtain⟨g,rfl,_⟩:=h0.whole a hc;have:=h.tail g hc;split at this;(·exact O4 this);·exact Pu this
theorem kf(a)(b c):eH a b c≠4/\eH a b c<=3:=by unfold eH;have:=ka (cy a b);(repeat' split);all_goals omega
theorem ir.aQ{c}{b}{g}{i}{d}(h:ir c b g i d){a:Nat}(hc:d.1[a]?=Z 4):b[a]?=Z 4:=by(have j:a<b.length:=by rw[<-h.len];exact cM hc);have e:b[a]?=Z b[a]:=Oz j;by_cases f:b[a]=4;(·rw[e,f]);·have:=h.head a _ e f;rw[hc]at this;have:=OC this;split at this;(·have:=kf c a b[a];omega);·omega
theorem ir.bd{e}{b}{f}{j}{g}(h:ir e b f j g)(h0:fs b f){a:Nat}(hc:g.1[a]?=Z 3):b[a]?=Z 3:=by(have k:a<b.length:=by rw[<-h.len];exact cM hc);have c:b[a]?=Z b[a]:=Oz k;by_cases i:b[a]=4;(·rw[i]at c;rcases h.four h0 c with d|d<;>(rw[hc]at d;cases d));·have:=h.head a _ c i;rw[hc]at this;have:=OC this;split at this;(·unfold eH at this;have m:=ka (cy e a);split at this;(·omega);·split at this;(·rename_i l;rw[c,l]);·omega);·rw[c,<-this]
theorem ir.pr{m}{g}{o}{v}{s}(h:ir m g o v s)(h0:fs g o):fs s.1 s.2:=by
 have w:∀a k,s.2[a]?=Z k->∃(q:Nat)(c:cj),g[a]?=Z q/\o[a]?=Z c/\k=(if a<v then fK m a q c else c):=fun a k l=>by(have t:a<o.length:=by rw[<-h.aK];exact cM l);(have y:a<g.length:=by rw[<-h0.eq];exact t);have e:g[a]?=Z g[a]:=Oz y;have f:o[a]?=Z o[a]:=Oz t;have:=h.aH a _ _ e f;rw[l]at this;exact⟨_,_,e,f,OC this⟩
 refine⟨by rw[h.len];exact h0.l1,by rw[h.len];exact h0.l2,by rw[h.aK,h.len];exact h0.eq,fun a q hc=>?_,fun a hc=>?_,fun a k l=>?_,fun a q k hc l z=>?_,fun a k hc l=>?_⟩;·(have t:a<g.length:=by rw[<-h.len];exact cM hc);have u:g[a]?=Z g[a]:=Oz t;by_cases i:g[a]=4;(·rw[i]at u;rcases h.four h0 u with d|d<;>(rw[hc]at d;cases d;omega));·have:=h.head a _ u i;rw[hc]at this;have:=OC this;split at this;(·have:=kf m a g[a];omega);·have:=h0.aE a _ u;omega
 ·have i:=h.aQ hc;obtain⟨x,rfl,_⟩:=h0.whole a i;refine⟨x,rfl,?_⟩;have:=h.tail x i;rw[hc]at this;split at this;(·assumption);·cases this
 ·obtain⟨q,c,e,f,rfl⟩:=w a k l;split;(·unfold fK;split;(·exact h0.aH a c f);·exact kN m a);·exact h0.aH a c f
 ·obtain⟨j,c,e,f,rfl⟩:=w a k l;by_cases i:j=4;(·subst i;(have:(if a<v then fK m a 4 c else c)=c:=by split<;>simp[fK]);rw[this];exact h0.aL a 4 c e f (Pu (Pu rfl)));·have b:=h.head a j e i;rw[hc]at b;have b:=OC b;split at b;(·rename_i n;rw[Pa n];unfold eH at b;unfold fK;by_cases p:j=0;(·subst p;rw[Pa (O4 rfl)];exact h0.aL a 0 c e f (O4 rfl));·by_cases r:j=3;(·subst r;rw[Pa (Pu (O4 rfl))];exact h0.aL a 3 c e f (Pu (O4 rfl)));·rw[O3 Oq];rw[O3 p,O3 r]at b;rcases eo (cy m a)with d|d|d;(·exact d.2);(·omega);·omega);·rename_i n;rw[O3 n];exact h0.aL a j c e f Oq
 ·obtain⟨j,c,e,f,rfl⟩:=w a k l;by_cases i:j=4;(·subst i;rcases h.four h0 e with d|d<;>(rw[hc]at d;cases d));·have b:=h.head a j e i;rw[hc]at b;have b:=OC b;split at b;(·rename_i n;rw[Pa n];unfold eH at b;unfold fK;by_cases p:j=0;(·rw[Pa p]at b;omega);·by_cases r:j=3;(·rw[O3 p,Pa r]at b;split at b<;>omega);·rw[O3 p,O3 r]at b;rw[O3 Oq];rcases eo (cy m a)with d|d|d;(·omega);(·exact d.2);·omega);·rename_i n;rw[O3 n];exact h0.aW a c (by rw[e,b]) f
theorem wu{b}{st}{a}(h:fs st a):ir b st a 0 (st,a):=by refine⟨rfl,fun c s hc _=>by rw[O3 Oq];exact hc,fun c hc=>?_,fun c s z _ d=>by rw[O3 Oq];exact d,rfl⟩;obtain⟨e,g,f⟩:=h.whole _ hc;have:e=c:=Oq;subst this;rw[Pa f];exact hc
theorem fE{d:Type}{c:List d}{a b}{e:d}(hb:a<c.length):(c.set a e)[b]?=if b=a then Z e else c[b]?:=by rw[Sk];by_cases h:a=b;(·subst h;simp[hb]);·grind
theorem ir.set{i}{j}{l}{k b}{d}(h:ir i j l k d)(h0:fs j l)(e:j[k]?=Z b)(r:b≠0)(p:b≠3)(m:b≠4):ir i j l (k+1) (d.1.set k (er (cy i k)),d.2.set k (cy i k)):=by
 have q:=cM e;have n:k<d.1.length:=by rw[h.len];exact q
 have s:k<d.2.length:=by rw[h.aK,h0.eq];exact q
 have x:d.1[k]?=Z b:=by have:=h.head k b e m;rwa[O3 Oq]at this
 refine⟨by simpa using h.len,fun c o hc t=>?_,fun c hc=>?_,fun c o z hc u=>?_,by simpa using h.aK⟩;·simp only;rw[fE n];by_cases a:c=k;(·rw[Pa a,Pa Oq];subst a;rw[e]at hc;cases hc;simp only[eH];rw[O3 r,O3 p]);·rw[O3 a,h.head c o hc t];by_cases f:c<k;(·rw[Pa f,Pa Oq]);·rw[O3 f,O3 Oq]
 ·simp only;rw[fE n,fE n];(have v:c+1≠k:=fun a=>by rw[a,e]at hc;cases hc;exact m rfl);rw[O3 v,h.tail c hc];by_cases a:c=k;(·subst a;obtain⟨w,a,g⟩:=h0.whole _ hc;have:w=c:=Oq;subst this;rw[e]at g;rcases g with g|g<;>cases g;(·exact absurd rfl p);·exact absurd rfl m);·rw[O3 a]
 ·simp only;rw[fE s];by_cases a:c=k;(·rw[Pa a,Pa Oq];subst a;rw[e]at hc;cases hc;simp only[fK];rw[O3 Oq]);·rw[O3 a,h.aH c o z hc u];by_cases f:c<k;(·rw[Pa f,Pa Oq]);·rw[O3 f,O3 Oq]
theorem ir.skip{e}{i}{j}{a}{k}(h:ir e i j a k)(m:∀b,i[a]?=Z b->b≠4->eH e a b=b/\∀f,fK e a b f=f):ir e i j (a+1) k:=by refine⟨h.len,fun c d hc n=>?_,h.tail,fun c d f hc o=>?_,h.aK⟩;(·rw[h.head c d hc n];by_cases g:c<a;(·rw[Pa g,Pa Oq]);·grind);·rw[h.aH c d f hc o];by_cases g:c<a;(·rw[Pa g,Pa Oq]);·rw[O3 g];by_cases p:c=a;(·subst p;rw[Pa Oq];by_cases l:d=4;(·subst l;simp[fK]);·rw[(m d hc l).2]);·rw[O3 Oq]
theorem ir.cut{n}{i}{o}{a}{d}(h:ir n i o a d)(h0:fs i o)(k:i[a]?=Z 3)(hb:fM n a=OD):ir n i o (a+1) (dN d.1 a,d.2):=by
 obtain⟨E,r,s⟩:=h2 d.1 a;have t:d.1[a]?=Z 3:=by have:=h.head a 3 k Oq;rwa[O3 Oq]at this
 have u:∀b,a<b->b<dz d.1 a->i[b]?=Z 4:=fun b v w=>h.aQ (r b v w);refine⟨by rw[eY];exact h.len,fun b p hc j=>?_,fun b hc=>?_,fun b p z hc x=>?_,h.aK⟩;·simp only;rw[f9,h.head b p hc j];simp only[QX];by_cases f:b=a;(·subst f;rw[k]at hc;cases hc;rw[Pa Oq,Pa Oq];simp[eH,hb]);·(have y:¬(a<=b/\b<dz d.1 a):=fun e=>by have:=u b Oq e.2;rw[hc]at this;cases this;exact j rfl);rw[O3 y];by_cases e:b<a;(·rw[Pa e,Pa Oq]);·rw[O3 e,O3 Oq]
 ·simp only;have j:=h.tail b hc;rw[f9,f9,j];simp only[QX];obtain⟨c,f,l⟩:=h0.whole _ hc;have:c=b:=Oq;subst this;(have B:c<d.1.length:=by rw[h.len];rcases l with l|l<;>exact cM l);have g:d.1[c]?=Z d.1[c]:=Oz B;by_cases e:a<=c+1/\c+1<dz d.1 a;(·rw[Pa e];(have C:a<=c:=by by_cases f:c+1=a;(·rw[f,k]at hc;cases hc);·omega);rw[g];simp only[QX];simp[(show a<=c/\c<dz d.1 a from⟨C,Oq⟩)]);·rw[O3 e];by_cases q:a<=c/\c<dz d.1 a;(·have:c+1=dz d.1 a:=Oq;rw[g];simp only[QX,Pa q];(have m:d.1[c]=3\/d.1[c]=4:=by by_cases f:c=a;(·subst f;have:=t;rw[g]at this;exact O4 (OC this));·have:=r c Oq q.2;rw[g]at this;exact Pu (OC this));exfalso;rw[<-this,j,g]at s;rcases m with m|m<;>simp[m]at s);·rw[g];simp only[QX,O3 q]
 ·simp only;rw[h.aH b p z hc x];by_cases e:b<a;(·rw[Pa e,Pa Oq]);·rw[O3 e];by_cases f:b=a;(·subst f;rw[k]at hc;cases hc;rw[Pa Oq];simp[fK]);·rw[O3 Oq]
theorem ir.step{e}{b}{i}{a}{g}(h:ir e b i a g)(h0:fs b i)(l:a<b.length):ir e b i (a+1) (ds e g a):=by have c:b[a]?=Z b[a]:=Oz l;have hr:=h0.aE a _ c;by_cases j:b[a]=4;(·rw[j]at c;(have:ds e g a=g:=by unfold ds;rcases h.four h0 c with k|k<;>simp only[k]);rw[this];exact h.skip fun s d m=>by rw[c]at d;cases d;exact absurd rfl m);·have hc:=h.head a _ c j;rw[O3 Oq]at hc;have n:b[a]=0\/b[a]=1\/b[a]=2\/b[a]=3\/b[a]=5:=Oq;rcases n with f|f|f|f|f<;>rw[f]at c hc<;>unfold ds<;>rw[hc]<;>simp only;(·exact h.skip fun s d _=>by rw[c]at d;cases d;exact⟨rfl,fun z=>rfl⟩);(·exact h.set h0 c Oq Oq Oq);(·exact h.set h0 c Oq Oq Oq);(·by_cases hb:fM e a=OQ;(·rw[Pa hb];exact h.skip fun s d _=>by rw[c]at d;cases d;exact⟨by simp[eH,hb],fun z=>by simp[fK]⟩);·rw[O3 hb];exact h.cut h0 c (by simpa using hb));·exact h.set h0 c Oq Oq Oq
theorem hm{L}{b}{c}(h0:fs b c):∀a,a<=b.length->ir L b c a (dh L (b,c) a):=by intro a;induction a with|zero=>exact fun _=>wu h0|succ a d=>intro e;rw[iW];exact(d Oq).step h0 Oq
structure fF(S:cQ)(L:List cF):Prop where
 ai:eV L (4096*S.st.length)
 ax:∀e∈L,gv S e.1 (e.2-e.1)
theorem tK(d)(c:List cF):∀b,c6 b=OQ->∀a,a<32->b a<=(c.foldl (dV d) b) a:=by induction c with|nil=>exact fun _ _ _ _=>Int.le_refl _|cons e c f=>intro b g a i;have:=f _ (eT d e g) a i;refine Int.le_trans ?_ this;simp only[dV,hJ];omega
theorem tF{b:Nat}{d:List cF}:∀{f:cj},c6 f=OQ->∀{a:cF},a∈d->M3 ((a.1:Int)-(b:Int)*4096) ((a.2:Int)-(a.1:Int))->∀c:Nat,((a.1:Int)-(b:Int)*4096)/128<=(c:Int)->(c:Int)<=(((a.1:Int)-(b:Int)*4096)+((a.2:Int)-(a.1:Int))-1)/128->cp (d.foldl (dV b) f) c=OQ:=by induction d with|nil=>exact fun _ _ h=>by cases h|cons l d m=>intro f e a g i c j k;rcases Pc.1 g with rfl|g;(·obtain⟨n,o⟩:=u5 e i c j k;exact Bw (eT b a e) (iA b d _ (eT b a e)) (fun p q=>tK b d _ (eT b a e) p q) c n o);·exact m (eT b l e) g i c j k
theorem pI{d:cQ}{b:List cF}(h:fF d b){a:cF}(c:a∈b)(e:a.2-a.1<=2048):M3 ((a.1:Int)-((a.1/4096:Nat):Int)*4096) ((a.2:Int)-(a.1:Int)):=by obtain⟨f,g,i,j⟩:=h.ai.one a c;have hc:=((h.ax a c).1 e).1;refine⟨Oq,Oq,Oq,Oq,Oq,Oq⟩
theorem wm{b}{a}(c:a∈b)(d:a.2-a.1<=2048):a∈de b (a.1/4096):=by simp[de,c];omega
theorem wo{e:cQ}{c}(h:fF e c){a}(b:a∈c)(d:a.2-a.1<=2048):pL (cy c (a.1/4096)) a.1 (a.2-a.1):=by intro x f g;obtain⟨i,j,k,l⟩:=h.ai.one a b;have hc:=((h.ax a b).1 d).1;refine tF gU (wm b d) (pI h b d) _ ?_ ?_;(·unfold dy;omega);·unfold dy;omega
theorem yD{b}{a}(c:a∈b):fM b (a.1/4096)=OQ:=by simp only[fM,Tt];exact⟨a,c,On⟩
theorem nv{a:cQ}{e:List cF}(h:ei a)(j:fF a e):ei (cq e a)/\(cq e a).st.length=a.st.length/\fF (cq e a) e/\(∀d:Nat,(cq e a).st[d]?≠Z 5):=by
 have f:=hm (L:=e) h.pr a.st.length (Ox _);generalize x:dh e (a.st,a.tb) a.st.length=n at f;have y:cq e a={st:=n.1,tb:=n.2,mn:=bV,ov:=bV}:=by rw[<-x];rfl
 rw[y];have r:∀d:Nat,n.1[d]?≠Z 5:=fun d hb=>by(have s:d<a.st.length:=by rw[<-f.len];exact cM hb);have c:a.st[d]?=Z a.st[d]:=Oz s;by_cases t:a.st[d]=4;(·rw[t]at c;rcases f.four h.pr c with b|b<;>(rw[hb]at b;cases b));·have:=f.head d _ c t;rw[hb,Pa s]at this;have:=OC this;have:=kf e d a.st[d];omega
 refine⟨⟨(f.pr h.pr),O4 rfl,O4 rfl,fun k=>absurd rfl k,fun d hb=>absurd hb (r d)⟩,f.len,⟨by simpa[f.len]using j.ai,fun c l=>⟨fun o=>?_,fun o=>?_⟩⟩,r⟩;·obtain⟨c1,I,c2,c3⟩:=(j.ax c l).1 o;(have z:∃m,a.st[c.1/4096]?=Z m/\m≠0/\m≠3/\m≠4:=by rcases c3 with c3|c3|c3;(·exact⟨_,c3.1,Oq⟩);(·exact⟨_,c3,Oq⟩);·exact⟨_,c3.1,Oq⟩);obtain⟨m,q,B,C,E⟩:=z;have i:=f.head _ _ q E;have p:=f.aH _ _ _ q c2;rw[Pa (cM q)]at i p;simp only[eH,O3 B,O3 C]at i;simp only[fK]at p;rw[O3 Oq]at p;refine⟨c1,_,p,?_⟩;have u:=wo j l o;rcases eo (cy e (c.1/4096))with b|b|b;(·exfalso;have K:=j.ai.one c l;have:=u c.1 (Ox _) Oq;have:=b.2 (dy c.1) (by unfold dy;omega);simp_all);(·rw[b.1]at i;exact O4 ⟨i,u⟩);·rw[b.1]at i;exact Pu (O4 i)
 ·obtain⟨F,v⟩:=(j.ax c l).2 o;refine⟨F,fun g w=>?_⟩;show n.1[c.1/4096+g]?=_;induction g with|zero=>have b:=v 0 w;simp only[Ub,TT]at b⊢;have:=f.head _ _ b Oq;rw[Pa (cM b)]at this;rw[this];simp[eH,yD l]|succ g H=>have b:=v (g+1) w;rw[O3 Oq]at b⊢;have:=f.tail (c.1/4096+g) b;rw[show c.1/4096+(g+1)=c.1/4096+g+1 from rfl,this,Pa ?_];rw[(H Oq)];split;(·exact O4 rfl);·exact Pu rfl
end Tr
end Go.Proofs.YtpcaenpbejcagaaGreatDoor
