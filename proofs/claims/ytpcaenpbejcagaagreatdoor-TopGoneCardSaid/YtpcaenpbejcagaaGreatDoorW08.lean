/- Lemmas for TopHalf and TopGone. Conditions: the listed variables hold what their initialisers lay. -/
import Derived.Test.YtpcaenpbejcagaaGreatDoorW07
set_option linter.all false
set_option maxRecDepth 100000
set_option maxHeartbeats 4000000
open Bool renaming false->OD,true->OQ
open Go renaming World->OB,Calls->OJ,Value->OU,underlying->R5,loadVar->SB,method->TC,storeVar->UA,isAgg->UB,storeCells->Vu,unsupported->Xj
open Go.Addr renaming add->UH
open Go.Ending renaming returned->Ov
open Go.Extern.ReflectliteType renaming relation->Px,assignableTo->P0,typeOf->P5,abiMethod->P9,implements_->Qx,method->QM,toType->QT,elem->Q5
open Go.Extern.ReflectliteValue renaming valueError->Ph,method->PN,parts->P7,unpack->Qd,isNil->Qi,elem->Qm,flagAddr->Qu,methodAny->QC,set->QS,mk->SM
open Go.Extern.Rtype renaming kind->RQ,directlyAssignable->RX,elem?->UC,spelt->Yp
open Go.Instr renaming typeAssert->Rn
open Go.IntKind renaming i64->D,u8->Q9,u64->Rh
open Go.Obj renaming cells->A
open Go.Proofs.Tryz renaming prog->Ot,underlying62->S1,underlying312->Tj,underlying309->Tk,func169->T1,func505->Un,func504->Uo,func502->Up,func479->Uq,func171->Ur,func170->Us,func103->Ut,func102->Uu,func101->Uv,underlying382->WH,underlying270->WJ,underlying250->WK,underlying237->WL,underlying132->WR
open Go.Result renaming andThen->PC
open Go.RowKit renaming Below->OE
open Go.Value renaming int->U,slice->J,pointer->Oy,tuple->OP,iface->OW,agg->O8,nilIface->PA,cells->TJ
open Go.World renaming cell?->RI
open Option renaming some->Z,none->Y
namespace Go.Proofs.YtpcaenpbejcagaaGreatDoor
section
open Go.RowKit Go.Lib Go.Shelf
attribute[local go_sem]Oper.semAt_some
structure ki where
 size:Int
 ae:List Int
 elem:Int
 ad:List Int
structure Nu(n:Nat)(W:OB)(vp vq:OU)(d:ki):Prop where
 p:NA n W vp d.ae
 q:NA n W vq d.ad
theorem Nu.fx{n}{a b}{c d}{e}(h:Nu n a c d e)(f:N1 n a b):Nu n b c d e:=⟨h.p.fx f,h.q.fx f⟩
theorem Nu.below{b}{a c}{d e}{f}(h:Nu b a d e f)(g:OE a a c):Nu b c d e f:=⟨h.p.below g,h.q.below g⟩
def ki.v(a:ki)(b c:OU):OU:=O8 #[U D a.size,b,U D a.elem,c]
def fw(a:ki):Bool:=iN a.size 1024&&(iN a.elem 256&&(fI a.size a.ae&&fI a.elem a.ad))
theorem hO(t)(F H)(c)(a)(h:Nu t a F H c):OJ Ot 56 #[c.v F H] a fun r d=>r=Ov (fw c)/\OE a a d:=by
 obtain⟨R,S,rfl,_,_⟩:=h.p.sl;obtain⟨I,K,rfl,_,_⟩:=h.q.sl;have i:=G (fun W(u:a.B W)=>t0 t c.size _ c.ae W (h.p.below u));have l:=G (fun W(u:a.B W)=>t0 t c.elem _ c.ad W (h.q.below u));clear h;obtain⟨j,ps,f,v⟩:=c;simp only[ki.v]at i l⊢;obtain⟨w,L⟩:∃w,ps.length=w:=⟨_,rfl⟩;obtain⟨m,M⟩:∃m,v.length=m:=⟨_,rfl⟩;rw[L]at i⊢;rw[M]at l⊢;obtain⟨N,O,_⟩:=d5 a #[j,J R w S,f,J I m K] 25;have g:=G O;have P:=G N;obtain⟨n,x⟩:∃n,iN j 1024=n:=⟨_,rfl⟩;obtain⟨o,y⟩:∃o,iN f 256=o:=⟨_,rfl⟩;obtain⟨p,z⟩:∃p,fI j ps=p:=⟨_,rfl⟩;obtain⟨B,C⟩:∃B,fI f v=B:=⟨_,rfl⟩;have hr:fw ⟨j,ps,f,v⟩=(n&&(o&&(p&&B))):=by simp only[fw,x,y,z,C]
 rw[hr];rw[z]at i;rw[C]at l;have k:=G (rp j 1024);have q:=G (rp f 256);rw[x]at k;rw[y]at q;clear hr x y z C O N L M;cases n;·go_in;go_wp2_with fail;(with_reducible refine(k.o _).mono ?_);rintro b d⟨rfl,rfl⟩;go_wp2;go_ret;exact⟨rfl,g.o⟩
 cases o;·go_in;go_wp2_with fail;(with_reducible refine(k.o _).mono ?_);rintro b d⟨rfl,rfl⟩;go_wp2_with fail;(with_reducible refine(q.o _).mono ?_);rintro b d⟨rfl,rfl⟩;go_wp2;go_ret;exact⟨rfl,g.o⟩
 cases p;·go_in;go_wp2_with fail;(with_reducible refine(k.o _).mono ?_);rintro b d⟨rfl,rfl⟩;go_wp2_with fail;(with_reducible refine(q.o _).mono ?_);rintro b d⟨rfl,rfl⟩;go_wp2_with fail;(with_reducible refine(i.o _ g.o).mono ?_);rintro b E⟨rfl,e⟩;have s:=G (a0 g.o e);clear e;go_wp2;go_ret;exact⟨rfl,s.o⟩
 ·go_in;go_wp2_with fail;(with_reducible refine(k.o _).mono ?_);rintro b d⟨rfl,rfl⟩;go_wp2_with fail;(with_reducible refine(q.o _).mono ?_);rintro b d⟨rfl,rfl⟩;go_wp2_with fail;(with_reducible refine(i.o _ g.o).mono ?_);rintro b E⟨rfl,e⟩;have c2:E.q a 2 f:=(P.o.aa e).cell rfl;have c3:E.q a 3 (J I m K):=(P.o.aa e).cell rfl;have s:=G (a0 g.o e);clear e;go_wp2_with fail;(with_reducible refine(l.o _ s.o).mono ?_);rintro b V⟨rfl,Q⟩;have T:=G (a0 s.o Q);clear Q;go_wp2;go_ret;exact⟨rfl,T.o⟩
end
section
open Go.RowKit Go.Extern.Stop Go.Stop Go.Extern
theorem pg(b)(a):OJ Ot 46 #[PA,b] a fun e c=>e=Ov OD/\a=c:=by go_in;go_wp2;go_ret;exact⟨rfl,rfl⟩
theorem FH(b:Sem OU)(c:TypeId->Addr->Nat->Nat->Sem OU)(d:OU):PN b c #[d]=(do match<-P7 d with|Y=>b|Z (f,a,e)=>c f a e (e%32)):=rfl
theorem KS(f g:OU):QS #[f,g]=(do
  let(Z (c,a,i),Z (d,b,_)):=(<-P7 f,<-P7 g)|Xj (.noEntry "extern/(internal/reflectlite.Value).Set.zeroValue")
  if i/Qu%2==0 then Xj (.noEntry "extern/(internal/reflectlite.Value).Set.unaddressable")
  let e<-SB d b
  if<-RX c d then UA c a e else if<-Rtype.implements c d then if(<-RQ d)==20 then match e with|PA=>Xj (.noEntry "extern/reflectlite: a nil value of one interface type handed on as a value of another")|_=>UA c a e else UA c a (OW d e)else panicString ("reflectlite.Set: value of type "++(<-Yp d)++ " is not assignable to type "++(<-Yp c))
  pure (OP #[])):=rfl
theorem e8(h)(a):(TC 742 304 (O8 #[h]) "Kind").run Ot a=.ok (479,h) a:=Oo
theorem e9(h)(a):(TC 742 304 (O8 #[h]) "Elem").run Ot a=.ok (504,O8 #[h]) a:=Oo
theorem dS(h)(a):(TC 742 304 (O8 #[h]) "Implements").run Ot a=.ok (505,O8 #[h]) a:=Oo
theorem dF(h)(a):(TC 742 304 (O8 #[h]) "AssignableTo").run Ot a=.ok (502,O8 #[h]) a:=Oo
theorem qd(b)(a):(Qd (OW 132 (Oy (Z b)))).run Ot a=.ok (O8 #[Oy (Z ⟨31,132,Y⟩),a,U Rh 150]) (a.alloc (A #[Oy (Z b)] 132)):=Oo
theorem sU(b)(a):(QC (Ph "reflectlite.Value.Type" 0) (fun c _ _ _=>QT c) #[O8 #[Oy (Z ⟨31,132,Y⟩),Oy (Z b),U Rh 150]]).run Ot a=.ok (OW 304 (O8 #[Oy (Z ⟨31,132,Y⟩)])) a:=Oo
theorem tr(b):((P9 fun c=>Functor.map (fun a:Nat=>U Q9 (a:Int)) (RQ c)) #[Oy (Z ⟨31,132,Y⟩)]).run Ot b=.ok (U Q9 22) b:=Oo
theorem vI(b):((P9 fun c=>Functor.map (fun a:Nat=>U Q9 (a:Int)) (RQ c)) #[Oy (Z ⟨31,131,Y⟩)]).run Ot b=.ok (U Q9 22) b:=Oo
theorem kK(a)(b):(P7 (O8 #[Oy (Z ⟨31,132,Y⟩),Oy (Z a),U Rh 150])).run Ot b=.ok (Z (132,a,150)) b:=Oo
theorem vN(b c)(a)(d:a.cell? b=Z (Oy (Z c))):(PN (Ph "reflectlite.Value.IsNil" 0) Qi #[O8 #[Oy (Z ⟨31,132,Y⟩),Oy (Z b),U Rh 150]]).run Ot a=.ok OD a:=by rw[FH];simp only[Rr,kK,PC];simp[Qi,SB,UB,R5,WR,d,PC]
theorem we(a):(QM Q5 #[O8 #[Oy (Z ⟨31,132,Y⟩)]]).run Ot a=.ok (OW 304 (O8 #[Oy (Z ⟨31,131,Y⟩)])) a:=Oo
theorem vS(a):(Px "Implements" Qx #[O8 #[Oy (Z ⟨31,131,Y⟩)],OW 304 (O8 #[Oy (Z ⟨31,64,Y⟩)])]).run Ot a=.ok OQ a:=Oo
theorem qn(b)(a):(P5 #[OW 131 b]).run Ot a=.ok (OW 304 (O8 #[Oy (Z ⟨31,131,Y⟩)])) a:=Oo
theorem qi(b)(a):(P5 #[OW 221 b]).run Ot a=.ok (OW 304 (O8 #[Oy (Z ⟨31,221,Y⟩)])) a:=Oo
theorem yv(a):(Px "AssignableTo" P0 #[O8 #[Oy (Z ⟨31,131,Y⟩)],OW 304 (O8 #[Oy (Z ⟨31,131,Y⟩)])]).run Ot a=.ok OQ a:=Oo
theorem yq(a):(Px "AssignableTo" P0 #[O8 #[Oy (Z ⟨31,221,Y⟩)],OW 304 (O8 #[Oy (Z ⟨31,131,Y⟩)])]).run Ot a=.ok OD a:=Oo
theorem sO(b)(a):(Qd (OW 131 (Oy (Z b)))).run Ot a=.ok (O8 #[Oy (Z ⟨31,131,Y⟩),a,U Rh 150]) (a.alloc (A #[(Oy (Z b))] 131)):=Oo
theorem tx(a):(UC 132).run Ot a=.ok (Z 131) a:=Oo
theorem Cj(a)(b):(SM 131 a Qu).run Ot b=.ok (O8 #[Oy (Z ⟨31,131,Y⟩),Oy (Z a),U Rh 406]) b:=Oo
theorem v5(b c)(a)(d:a.cell? b=Z (Oy (Z c))):(PN (Ph "reflectlite.Value.Elem" 0) Qm #[O8 #[Oy (Z ⟨31,132,Y⟩),Oy (Z b),U Rh 150]]).run Ot a=.ok (O8 #[Oy (Z ⟨31,131,Y⟩),Oy (Z c),U Rh 406]) a:=by rw[FH];simp only[Rr,kK,PC];simp[Qm,SB,UB,R5,WR,d,PC,tx,Cj]
theorem tc(a)(b):(P7 (O8 #[Oy (Z ⟨31,131,Y⟩),Oy (Z a),U Rh 406])).run Ot b=.ok (Z (131,a,406)) b:=Oo
theorem s6(a)(b):(P7 (O8 #[Oy (Z ⟨31,131,Y⟩),Oy (Z a),U Rh 150])).run Ot b=.ok (Z (131,a,150)) b:=Oo
theorem yl(a):(RX 131 131).run Ot a=.ok OQ a:=Oo
theorem ya(b c)(d)(e)(a)(hb:a.cell? c=Z (Oy (Z d)))(f:a.cell? b=Z e)(g:a.frozen? b=OD):(QS #[O8 #[Oy (Z ⟨31,131,Y⟩),Oy (Z b),U Rh 406],O8 #[Oy (Z ⟨31,131,Y⟩),Oy (Z c),U Rh 150]]).run Ot a=.ok (OP #[]) (a.setCell b (Oy (Z d))):=by rw[KS];simp only[Rr,tc,s6,PC];simp[Qu,SB,UB,R5,Tryz.underlying131,hb,PC,yl,UA,TJ,Vu,UH];rw[VQ Ot a b _ _ Ok];simp[f,g]
theorem yg(b)(c)(a):(Rn (OW 221 b) c 309 OQ).run Ot a=.ok (OP #[PA,OD]) a:=RP Tk Oo Oo b c a
theorem vX(a)(c)(b):(Rn (OW 221 a) c 312 OQ).run Ot b=.ok (OP #[OW 221 a,OQ]) b:=Ty Tj Oo a c b
theorem pq(a)(b):(TC 742 221 (Oy (Z a)) "Unwrap").run Ot b=.ok (493,Oy (Z a)) b:=Oo
theorem F0(b:Nat)(c)(a)(h:a.cell? ⟨b,1,Y⟩=Z (OW 131 c)):OJ Ot 493 #[b] a fun r d=>r=Ov (OW 131 c)/\a=d:=by go_in;go_wp2;go_ret;exact⟨rfl,rfl⟩
theorem H8(j b:Nat)(f)(m)(a)(n:a.q 1 0 (OW 304 (O8 #[Oy (Z ⟨31,64,Y⟩)])))(o:a.cell? ⟨j,1,Y⟩=Z (OW 131 (Oy (Z f))))(l:a.cell? ⟨b,0,Y⟩=Z m)(p:a.frozen? ⟨b,0,Y⟩=OD):OJ Ot 46 #[OW 221 j,OW 132 b] a fun t q=>t=Ov OQ/\q=((((a.alloc (A #[b] 132)).alloc (A #[Oy (Z ⟨31,132,Y⟩),a,U Rh 150] 198)).alloc (A #[Oy (Z ⟨31,132,Y⟩),a,U Rh 150] 198)).alloc (A #[(Oy (Z f))] 131)).setCell ⟨b,0,Y⟩ (Oy (Z f)):=by
 have x:=@O2 Ot 101 _ (fun u=>Qd (u.getD 0 (OP #[]))) Uv Oo Oo Oo Oo;have y:=@O2 Ot 102 _ (QC (Ph "reflectlite.Value.Type" 0) (fun b _ _ _=>QT b)) Uu Oo Oo Oo Oo;have z:=@O2 Ot 103 _ (PN (Ph "reflectlite.Value.IsNil" 0) Qi) Ut Oo Oo Oo Oo;have B:=@O2 Ot 479 _ (P9 fun b=>do pure (U Q9 (<-RQ b))) Uq Oo Oo Oo Oo;have C:=@O2 Ot 504 _ (QM Q5) Uo Oo Oo Oo Oo;have E:=@O2 Ot 505 _ (Px "Implements" Qx) Un Oo Oo Oo Oo;have F:=@O2 Ot 169 _ P5 T1 Oo Oo Oo Oo;have H:=@O2 Ot 502 _ (Px "AssignableTo" P0) Up Oo Oo Oo Oo;have I:=@O2 Ot 170 _ (PN (Ph "reflectlite.Value.Elem" 0) Qm) Us Oo Oo Oo Oo;have K:=@O2 Ot 171 _ QS Ur Oo Oo Oo Oo;have L:=qn;have M:=qi;have N:=dF;have O:=yv;have P:=yq;have Q:=sO;have R:=qd;have S:=sU;have T:=e8;have V:=e9;have W:=dS;have X:=tr;have aa:=vI;have ab:=we;have ac:=vS;have nA:=yg;have hU:=vX;have mU:=pq;obtain⟨k,c⟩:∃k,a.alloc (A #[b] 132)=k:=⟨_,rfl⟩;obtain⟨i,e⟩:∃i,k.alloc (A #[Oy (Z ⟨31,132,Y⟩),a,U Rh 150] 198)=i:=⟨_,rfl⟩;obtain⟨d,g⟩:∃d,i.alloc (A #[Oy (Z ⟨31,132,Y⟩),a,U Rh 150] 198)=d:=⟨_,rfl⟩;have c1:k.q a 0 b:=by rw[<-c];exact(bi.new a _ _).cell rfl
 have c2:i.q a 0 b:=by rw[<-e];exact a3 _ c1
 have c3:d.cell? ⟨a.heap.size,0,Y⟩=Z (Oy (Z ⟨b,0,Y⟩)):=by rw[<-g];exact a3 _ c2
 have ad:i.cell? ⟨1,0,Y⟩=Z (OW 304 (O8 #[Oy (Z ⟨31,64,Y⟩)])):=by rw[<-e,<-c];exact a3 _ (a3 _ n)
 have n8:=vN ⟨a.heap.size,0,Y⟩ ⟨b,0,Y⟩ i c2;have el:=v5 ⟨a.heap.size,0,Y⟩ ⟨b,0,Y⟩ d c3;have r:d.cell? ⟨j,1,Y⟩=Z (OW 131 (Oy (Z f))):=by rw[<-g,<-e,<-c];exact a3 _ (a3 _ (a3 _ o))
 have v:=Pr a _ l;have s:d.heap.size=a.heap.size+1+1+1:=by rw[<-g,<-e,<-c];simp
 have st:=ya ⟨b,0,Y⟩ ⟨d.heap.size,0,Y⟩ f m (d.alloc (A #[(Oy (Z f))] 131)) ((bi.new d _ _).cell rfl) (by rw[<-g,<-e,<-c];exact a3 _ (a3 _ (a3 _ (a3 _ l)))) (by simp only at v;rw[PX _ _ _ Ol,<-g,PX _ _ _ (by rw[<-e,<-c];simp;omega),<-e,PX _ _ _ (by rw[<-c];simp;omega),<-c,PX _ _ _ Ol];exact p);have w:=G (F0 j (Oy (Z f)) d r);rw[s]at st;have ae:=G g;clear n o l p c1 c2 c3 r s;rw[c,e,g];subst g;subst e;subst c;go_in;go_wp2;refine PI 2 ?_;rw[Pw];go_wp2_with(go_at_call 493;(with_reducible refine w.o.mono ?_);rintro f q⟨rfl,rfl⟩);rw[Pw];go_wp2;go_ret;exact⟨rfl,rfl⟩
theorem qb(b)(a):(Qd (OW 237 (Oy (Z b)))).run Ot a=.ok (O8 #[Oy (Z ⟨31,237,Y⟩),a,U Rh 150]) (a.alloc (A #[Oy (Z b)] 237)):=Oo
theorem sR(b)(a):(QC (Ph "reflectlite.Value.Type" 0) (fun c _ _ _=>QT c) #[O8 #[Oy (Z ⟨31,237,Y⟩),Oy (Z b),U Rh 150]]).run Ot a=.ok (OW 304 (O8 #[Oy (Z ⟨31,237,Y⟩)])) a:=Oo
theorem tp(b):((P9 fun c=>Functor.map (fun a:Nat=>U Q9 (a:Int)) (RQ c)) #[Oy (Z ⟨31,237,Y⟩)]).run Ot b=.ok (U Q9 22) b:=Oo
theorem vG(b):((P9 fun c=>Functor.map (fun a:Nat=>U Q9 (a:Int)) (RQ c)) #[Oy (Z ⟨31,236,Y⟩)]).run Ot b=.ok (U Q9 22) b:=Oo
theorem kI(a)(b):(P7 (O8 #[Oy (Z ⟨31,237,Y⟩),Oy (Z a),U Rh 150])).run Ot b=.ok (Z (237,a,150)) b:=Oo
theorem vL(b c)(a)(d:a.cell? b=Z (Oy (Z c))):(PN (Ph "reflectlite.Value.IsNil" 0) Qi #[O8 #[Oy (Z ⟨31,237,Y⟩),Oy (Z b),U Rh 150]]).run Ot a=.ok OD a:=by rw[FH];simp only[Rr,kI,PC];simp[Qi,SB,UB,R5,WL,d,PC]
theorem v9(a):(QM Q5 #[O8 #[Oy (Z ⟨31,237,Y⟩)]]).run Ot a=.ok (OW 304 (O8 #[Oy (Z ⟨31,236,Y⟩)])) a:=Oo
theorem vQ(a):(Px "Implements" Qx #[O8 #[Oy (Z ⟨31,236,Y⟩)],OW 304 (O8 #[Oy (Z ⟨31,64,Y⟩)])]).run Ot a=.ok OQ a:=Oo
theorem ql(b)(a):(P5 #[OW 236 b]).run Ot a=.ok (OW 304 (O8 #[Oy (Z ⟨31,236,Y⟩)])) a:=Oo
theorem qg(b)(a):(P5 #[OW 240 b]).run Ot a=.ok (OW 304 (O8 #[Oy (Z ⟨31,240,Y⟩)])) a:=Oo
theorem yt(a):(Px "AssignableTo" P0 #[O8 #[Oy (Z ⟨31,236,Y⟩)],OW 304 (O8 #[Oy (Z ⟨31,236,Y⟩)])]).run Ot a=.ok OQ a:=Oo
theorem yo(a):(Px "AssignableTo" P0 #[O8 #[Oy (Z ⟨31,240,Y⟩)],OW 304 (O8 #[Oy (Z ⟨31,236,Y⟩)])]).run Ot a=.ok OD a:=Oo
theorem sM(b)(a):(Qd (OW 236 (Oy (Z b)))).run Ot a=.ok (O8 #[Oy (Z ⟨31,236,Y⟩),a,U Rh 150]) (a.alloc (A #[(Oy (Z b))] 236)):=Oo
theorem tv(a):(UC 237).run Ot a=.ok (Z 236) a:=Oo
theorem Ch(a)(b):(SM 236 a Qu).run Ot b=.ok (O8 #[Oy (Z ⟨31,236,Y⟩),Oy (Z a),U Rh 406]) b:=Oo
theorem v2(b c)(a)(d:a.cell? b=Z (Oy (Z c))):(PN (Ph "reflectlite.Value.Elem" 0) Qm #[O8 #[Oy (Z ⟨31,237,Y⟩),Oy (Z b),U Rh 150]]).run Ot a=.ok (O8 #[Oy (Z ⟨31,236,Y⟩),Oy (Z c),U Rh 406]) a:=by rw[FH];simp only[Rr,kI,PC];simp[Qm,SB,UB,R5,WL,d,PC,tv,Ch]
theorem s9(a)(b):(P7 (O8 #[Oy (Z ⟨31,236,Y⟩),Oy (Z a),U Rh 406])).run Ot b=.ok (Z (236,a,406)) b:=Oo
theorem sY(a)(b):(P7 (O8 #[Oy (Z ⟨31,236,Y⟩),Oy (Z a),U Rh 150])).run Ot b=.ok (Z (236,a,150)) b:=Oo
theorem yj(a):(RX 236 236).run Ot a=.ok OQ a:=Oo
theorem x8(b c)(d)(e)(a)(hb:a.cell? c=Z (Oy (Z d)))(f:a.cell? b=Z e)(g:a.frozen? b=OD):(QS #[O8 #[Oy (Z ⟨31,236,Y⟩),Oy (Z b),U Rh 406],O8 #[Oy (Z ⟨31,236,Y⟩),Oy (Z c),U Rh 150]]).run Ot a=.ok (OP #[]) (a.setCell b (Oy (Z d))):=by rw[KS];simp only[Rr,s9,sY,PC];simp[Qu,SB,UB,R5,Tryz.underlying236,hb,PC,yj,UA,TJ,Vu,UH];rw[VQ Ot a b _ _ Ok];simp[f,g]
theorem ye(b)(c)(a):(Rn (OW 240 b) c 309 OQ).run Ot a=.ok (OP #[PA,OD]) a:=RP Tk Oo Oo b c a
theorem vV(a)(c)(b):(Rn (OW 240 a) c 312 OQ).run Ot b=.ok (OP #[OW 240 a,OQ]) b:=Ty Tj Oo a c b
theorem pn(a)(b):(TC 742 240 (Oy (Z a)) "Unwrap").run Ot b=.ok (496,Oy (Z a)) b:=Oo
theorem FY(b:Nat)(c)(a)(h:a.cell? ⟨b,1,Y⟩=Z (OW 236 c)):OJ Ot 496 #[b] a fun r d=>r=Ov (OW 236 c)/\a=d:=by go_in;go_wp2;go_ret;exact⟨rfl,rfl⟩
theorem H6(j b:Nat)(f)(m)(a)(n:a.q 1 0 (OW 304 (O8 #[Oy (Z ⟨31,64,Y⟩)])))(o:a.cell? ⟨j,1,Y⟩=Z (OW 236 (Oy (Z f))))(l:a.cell? ⟨b,0,Y⟩=Z m)(p:a.frozen? ⟨b,0,Y⟩=OD):OJ Ot 46 #[OW 240 j,OW 237 b] a fun t q=>t=Ov OQ/\q=((((a.alloc (A #[b] 237)).alloc (A #[Oy (Z ⟨31,237,Y⟩),a,U Rh 150] 198)).alloc (A #[Oy (Z ⟨31,237,Y⟩),a,U Rh 150] 198)).alloc (A #[(Oy (Z f))] 236)).setCell ⟨b,0,Y⟩ (Oy (Z f)):=by
 have x:=@O2 Ot 101 _ (fun u=>Qd (u.getD 0 (OP #[]))) Uv Oo Oo Oo Oo;have y:=@O2 Ot 102 _ (QC (Ph "reflectlite.Value.Type" 0) (fun b _ _ _=>QT b)) Uu Oo Oo Oo Oo;have z:=@O2 Ot 103 _ (PN (Ph "reflectlite.Value.IsNil" 0) Qi) Ut Oo Oo Oo Oo;have B:=@O2 Ot 479 _ (P9 fun b=>do pure (U Q9 (<-RQ b))) Uq Oo Oo Oo Oo;have C:=@O2 Ot 504 _ (QM Q5) Uo Oo Oo Oo Oo;have E:=@O2 Ot 505 _ (Px "Implements" Qx) Un Oo Oo Oo Oo;have F:=@O2 Ot 169 _ P5 T1 Oo Oo Oo Oo;have H:=@O2 Ot 502 _ (Px "AssignableTo" P0) Up Oo Oo Oo Oo;have I:=@O2 Ot 170 _ (PN (Ph "reflectlite.Value.Elem" 0) Qm) Us Oo Oo Oo Oo;have K:=@O2 Ot 171 _ QS Ur Oo Oo Oo Oo;have L:=ql;have M:=qg;have N:=dF;have O:=yt;have P:=yo;have Q:=sM;have R:=qb;have S:=sR;have T:=e8;have V:=e9;have W:=dS;have X:=tp;have aa:=vG;have ab:=v9;have ac:=vQ;have nA:=ye;have hU:=vV;have mU:=pn;obtain⟨k,c⟩:∃k,a.alloc (A #[b] 237)=k:=⟨_,rfl⟩;obtain⟨i,e⟩:∃i,k.alloc (A #[Oy (Z ⟨31,237,Y⟩),a,U Rh 150] 198)=i:=⟨_,rfl⟩;obtain⟨d,g⟩:∃d,i.alloc (A #[Oy (Z ⟨31,237,Y⟩),a,U Rh 150] 198)=d:=⟨_,rfl⟩;have c1:k.q a 0 b:=by rw[<-c];exact(bi.new a _ _).cell rfl
 have c2:i.q a 0 b:=by rw[<-e];exact a3 _ c1
 have c3:d.cell? ⟨a.heap.size,0,Y⟩=Z (Oy (Z ⟨b,0,Y⟩)):=by rw[<-g];exact a3 _ c2
 have ad:i.cell? ⟨1,0,Y⟩=Z (OW 304 (O8 #[Oy (Z ⟨31,64,Y⟩)])):=by rw[<-e,<-c];exact a3 _ (a3 _ n)
 have n8:=vL ⟨a.heap.size,0,Y⟩ ⟨b,0,Y⟩ i c2;have el:=v2 ⟨a.heap.size,0,Y⟩ ⟨b,0,Y⟩ d c3;have r:d.cell? ⟨j,1,Y⟩=Z (OW 236 (Oy (Z f))):=by rw[<-g,<-e,<-c];exact a3 _ (a3 _ (a3 _ o))
 have v:=Pr a _ l;have s:d.heap.size=a.heap.size+1+1+1:=by rw[<-g,<-e,<-c];simp
 have st:=x8 ⟨b,0,Y⟩ ⟨d.heap.size,0,Y⟩ f m (d.alloc (A #[(Oy (Z f))] 236)) ((bi.new d _ _).cell rfl) (by rw[<-g,<-e,<-c];exact a3 _ (a3 _ (a3 _ (a3 _ l)))) (by simp only at v;rw[PX _ _ _ Ol,<-g,PX _ _ _ (by rw[<-e,<-c];simp;omega),<-e,PX _ _ _ (by rw[<-c];simp;omega),<-c,PX _ _ _ Ol];exact p);have w:=G (FY j (Oy (Z f)) d r);rw[s]at st;have ae:=G g;clear n o l p c1 c2 c3 r s;rw[c,e,g];subst g;subst e;subst c;go_in;go_wp2;refine PI 2 ?_;rw[Pw];go_wp2_with(go_at_call 496;(with_reducible refine w.o.mono ?_);rintro f q⟨rfl,rfl⟩);rw[Pw];go_wp2;go_ret;exact⟨rfl,rfl⟩
theorem qc(b)(a):(Qd (OW 250 (Oy (Z b)))).run Ot a=.ok (O8 #[Oy (Z ⟨31,250,Y⟩),a,U Rh 150]) (a.alloc (A #[Oy (Z b)] 250)):=Oo
theorem sS(b)(a):(QC (Ph "reflectlite.Value.Type" 0) (fun c _ _ _=>QT c) #[O8 #[Oy (Z ⟨31,250,Y⟩),Oy (Z b),U Rh 150]]).run Ot a=.ok (OW 304 (O8 #[Oy (Z ⟨31,250,Y⟩)])) a:=Oo
theorem tq(b):((P9 fun c=>Functor.map (fun a:Nat=>U Q9 (a:Int)) (RQ c)) #[Oy (Z ⟨31,250,Y⟩)]).run Ot b=.ok (U Q9 22) b:=Oo
theorem vH(b):((P9 fun c=>Functor.map (fun a:Nat=>U Q9 (a:Int)) (RQ c)) #[Oy (Z ⟨31,249,Y⟩)]).run Ot b=.ok (U Q9 2) b:=Oo
theorem kJ(a)(b):(P7 (O8 #[Oy (Z ⟨31,250,Y⟩),Oy (Z a),U Rh 150])).run Ot b=.ok (Z (250,a,150)) b:=Oo
theorem vM(b c)(a)(d:a.cell? b=Z (Oy (Z c))):(PN (Ph "reflectlite.Value.IsNil" 0) Qi #[O8 #[Oy (Z ⟨31,250,Y⟩),Oy (Z b),U Rh 150]]).run Ot a=.ok OD a:=by rw[FH];simp only[Rr,kJ,PC];simp[Qi,SB,UB,R5,WK,d,PC]
theorem wc(a):(QM Q5 #[O8 #[Oy (Z ⟨31,250,Y⟩)]]).run Ot a=.ok (OW 304 (O8 #[Oy (Z ⟨31,249,Y⟩)])) a:=Oo
theorem vR(a):(Px "Implements" Qx #[O8 #[Oy (Z ⟨31,249,Y⟩)],OW 304 (O8 #[Oy (Z ⟨31,64,Y⟩)])]).run Ot a=.ok OQ a:=Oo
theorem qm(b)(a):(P5 #[OW 249 b]).run Ot a=.ok (OW 304 (O8 #[Oy (Z ⟨31,249,Y⟩)])) a:=Oo
theorem qh(b)(a):(P5 #[OW 251 b]).run Ot a=.ok (OW 304 (O8 #[Oy (Z ⟨31,251,Y⟩)])) a:=Oo
theorem yu(a):(Px "AssignableTo" P0 #[O8 #[Oy (Z ⟨31,249,Y⟩)],OW 304 (O8 #[Oy (Z ⟨31,249,Y⟩)])]).run Ot a=.ok OQ a:=Oo
theorem yp(a):(Px "AssignableTo" P0 #[O8 #[Oy (Z ⟨31,251,Y⟩)],OW 304 (O8 #[Oy (Z ⟨31,249,Y⟩)])]).run Ot a=.ok OD a:=Oo
theorem sN(b:Int)(a):(Qd (OW 249 b)).run Ot a=.ok (O8 #[Oy (Z ⟨31,249,Y⟩),a,U Rh 130]) (a.alloc (A #[b] 249)):=Oo
theorem tw(a):(UC 250).run Ot a=.ok (Z 249) a:=Oo
theorem Ci(a)(b):(SM 249 a Qu).run Ot b=.ok (O8 #[Oy (Z ⟨31,249,Y⟩),Oy (Z a),U Rh 386]) b:=Oo
theorem v3(b c)(a)(d:a.cell? b=Z (Oy (Z c))):(PN (Ph "reflectlite.Value.Elem" 0) Qm #[O8 #[Oy (Z ⟨31,250,Y⟩),Oy (Z b),U Rh 150]]).run Ot a=.ok (O8 #[Oy (Z ⟨31,249,Y⟩),Oy (Z c),U Rh 386]) a:=by rw[FH];simp only[Rr,kJ,PC];simp[Qm,SB,UB,R5,WK,d,PC,tw,Ci]
theorem ta(a)(b):(P7 (O8 #[Oy (Z ⟨31,249,Y⟩),Oy (Z a),U Rh 386])).run Ot b=.ok (Z (249,a,386)) b:=Oo
theorem sZ(a)(b):(P7 (O8 #[Oy (Z ⟨31,249,Y⟩),Oy (Z a),U Rh 130])).run Ot b=.ok (Z (249,a,130)) b:=Oo
theorem yk(a):(RX 249 249).run Ot a=.ok OQ a:=Oo
theorem x9(b c:Addr)(d:Int)(e:OU)(a:OB)(hb:a.cell? c=Z (U D d))(f:a.cell? b=Z e)(g:a.frozen? b=OD):(QS #[O8 #[Oy (Z ⟨31,249,Y⟩),Oy (Z b),U Rh 386],O8 #[Oy (Z ⟨31,249,Y⟩),Oy (Z c),U Rh 130]]).run Ot a=.ok (OP #[]) (a.setCell b d):=by rw[KS];simp only[Rr,ta,sZ,PC];simp[Qu,SB,UB,R5,Tryz.underlying249,hb,PC,yk,UA,TJ,Vu,UH];rw[VQ Ot a b _ _ Ok];simp[f,g]
theorem yf(b)(c)(a):(Rn (OW 251 b) c 309 OQ).run Ot a=.ok (OP #[PA,OD]) a:=RP Tk Oo Oo b c a
theorem vW(a)(c)(b):(Rn (OW 251 a) c 312 OQ).run Ot b=.ok (OP #[OW 251 a,OQ]) b:=Ty Tj Oo a c b
theorem po(a)(b):(TC 742 251 (Oy (Z a)) "Unwrap").run Ot b=.ok (499,Oy (Z a)) b:=Oo
theorem FZ(b:Nat)(c)(a)(h:a.cell? ⟨b,1,Y⟩=Z (OW 249 c)):OJ Ot 499 #[b] a fun r d=>r=Ov (OW 249 c)/\a=d:=by go_in;go_wp2;go_ret;exact⟨rfl,rfl⟩
theorem H7(j b:Nat)(f:Int)(m)(a)(n:a.q 1 0 (OW 304 (O8 #[Oy (Z ⟨31,64,Y⟩)])))(o:a.cell? ⟨j,1,Y⟩=Z (OW 249 f))(l:a.cell? ⟨b,0,Y⟩=Z m)(p:a.frozen? ⟨b,0,Y⟩=OD):OJ Ot 46 #[OW 251 j,OW 250 b] a fun t q=>t=Ov OQ/\q=((((a.alloc (A #[b] 250)).alloc (A #[Oy (Z ⟨31,250,Y⟩),a,U Rh 150] 198)).alloc (A #[Oy (Z ⟨31,250,Y⟩),a,U Rh 150] 198)).alloc (A #[f] 249)).setCell ⟨b,0,Y⟩ f:=by
 have x:=@O2 Ot 101 _ (fun u=>Qd (u.getD 0 (OP #[]))) Uv Oo Oo Oo Oo;have y:=@O2 Ot 102 _ (QC (Ph "reflectlite.Value.Type" 0) (fun b _ _ _=>QT b)) Uu Oo Oo Oo Oo;have z:=@O2 Ot 103 _ (PN (Ph "reflectlite.Value.IsNil" 0) Qi) Ut Oo Oo Oo Oo;have B:=@O2 Ot 479 _ (P9 fun b=>do pure (U Q9 (<-RQ b))) Uq Oo Oo Oo Oo;have C:=@O2 Ot 504 _ (QM Q5) Uo Oo Oo Oo Oo;have E:=@O2 Ot 505 _ (Px "Implements" Qx) Un Oo Oo Oo Oo;have F:=@O2 Ot 169 _ P5 T1 Oo Oo Oo Oo;have H:=@O2 Ot 502 _ (Px "AssignableTo" P0) Up Oo Oo Oo Oo;have I:=@O2 Ot 170 _ (PN (Ph "reflectlite.Value.Elem" 0) Qm) Us Oo Oo Oo Oo;have K:=@O2 Ot 171 _ QS Ur Oo Oo Oo Oo;have L:=qm;have M:=qh;have N:=dF;have O:=yu;have P:=yp;have Q:=sN;have R:=qc;have S:=sS;have T:=e8;have V:=e9;have W:=dS;have X:=tq;have aa:=vH;have ab:=wc;have ac:=vR;have nA:=yf;have hU:=vW;have mU:=po;obtain⟨k,c⟩:∃k,a.alloc (A #[b] 250)=k:=⟨_,rfl⟩;obtain⟨i,e⟩:∃i,k.alloc (A #[Oy (Z ⟨31,250,Y⟩),a,U Rh 150] 198)=i:=⟨_,rfl⟩;obtain⟨d,g⟩:∃d,i.alloc (A #[Oy (Z ⟨31,250,Y⟩),a,U Rh 150] 198)=d:=⟨_,rfl⟩;have c1:k.q a 0 b:=by rw[<-c];exact(bi.new a _ _).cell rfl
 have c2:i.q a 0 b:=by rw[<-e];exact a3 _ c1
 have c3:d.q a.heap.size 0 (Oy (Z ⟨b,0,Y⟩)):=by rw[<-g];exact a3 _ c2
 have ad:i.cell? ⟨1,0,Y⟩=Z (OW 304 (O8 #[Oy (Z ⟨31,64,Y⟩)])):=by rw[<-e,<-c];exact a3 _ (a3 _ n)
 have n8:=vM ⟨a.heap.size,0,Y⟩ ⟨b,0,Y⟩ i c2;have el:=v3 ⟨a.heap.size,0,Y⟩ ⟨b,0,Y⟩ d c3;have r:d.cell? ⟨j,1,Y⟩=Z (OW 249 (U D f)):=by rw[<-g,<-e,<-c];exact a3 _ (a3 _ (a3 _ o))
 have v:=Pr a _ l;have s:d.heap.size=a.heap.size+1+1+1:=by rw[<-g,<-e,<-c];simp
 have st:=x9 ⟨b,0,Y⟩ ⟨d.heap.size,0,Y⟩ f m (d.alloc (A #[(U D f)] 249)) ((bi.new d _ _).cell rfl) (by rw[<-g,<-e,<-c];exact a3 _ (a3 _ (a3 _ (a3 _ l)))) (by simp only at v;rw[PX _ _ _ Ol,<-g,PX _ _ _ (by rw[<-e,<-c];simp;omega),<-e,PX _ _ _ (by rw[<-c];simp;omega),<-c,PX _ _ _ Ol];exact p);have w:=G (FZ j (U D f) d r);rw[s]at st;have ae:=G g;clear n o l p c1 c2 c3 r s;rw[c,e,g];subst g;subst e;subst c;go_in;go_wp2;refine PI 2 ?_;rw[Pw];go_wp2_with(go_at_call 499;(with_reducible refine w.o.mono ?_);rintro f q⟨rfl,rfl⟩);rw[Pw];go_wp2;go_ret;exact⟨rfl,rfl⟩
theorem p9(b)(a):(Qd (OW 270 (Oy (Z b)))).run Ot a=.ok (O8 #[Oy (Z ⟨31,270,Y⟩),a,U Rh 150]) (a.alloc (A #[Oy (Z b)] 270)):=Oo
theorem sP(b)(a):(QC (Ph "reflectlite.Value.Type" 0) (fun c _ _ _=>QT c) #[O8 #[Oy (Z ⟨31,270,Y⟩),Oy (Z b),U Rh 150]]).run Ot a=.ok (OW 304 (O8 #[Oy (Z ⟨31,270,Y⟩)])) a:=Oo
theorem tn(b):((P9 fun c=>Functor.map (fun a:Nat=>U Q9 (a:Int)) (RQ c)) #[Oy (Z ⟨31,270,Y⟩)]).run Ot b=.ok (U Q9 22) b:=Oo
theorem vE(b):((P9 fun c=>Functor.map (fun a:Nat=>U Q9 (a:Int)) (RQ c)) #[Oy (Z ⟨31,269,Y⟩)]).run Ot b=.ok (U Q9 2) b:=Oo
theorem kG(a)(b):(P7 (O8 #[Oy (Z ⟨31,270,Y⟩),Oy (Z a),U Rh 150])).run Ot b=.ok (Z (270,a,150)) b:=Oo
theorem vJ(b c)(a)(d:a.cell? b=Z (Oy (Z c))):(PN (Ph "reflectlite.Value.IsNil" 0) Qi #[O8 #[Oy (Z ⟨31,270,Y⟩),Oy (Z b),U Rh 150]]).run Ot a=.ok OD a:=by rw[FH];simp only[Rr,kG,PC];simp[Qi,SB,UB,R5,WJ,d,PC]
theorem v7(a):(QM Q5 #[O8 #[Oy (Z ⟨31,270,Y⟩)]]).run Ot a=.ok (OW 304 (O8 #[Oy (Z ⟨31,269,Y⟩)])) a:=Oo
theorem vO(a):(Px "Implements" Qx #[O8 #[Oy (Z ⟨31,269,Y⟩)],OW 304 (O8 #[Oy (Z ⟨31,64,Y⟩)])]).run Ot a=.ok OQ a:=Oo
theorem qj(b)(a):(P5 #[OW 269 b]).run Ot a=.ok (OW 304 (O8 #[Oy (Z ⟨31,269,Y⟩)])) a:=Oo
theorem qe(b)(a):(P5 #[OW 325 b]).run Ot a=.ok (OW 304 (O8 #[Oy (Z ⟨31,325,Y⟩)])) a:=Oo
theorem yr(a):(Px "AssignableTo" P0 #[O8 #[Oy (Z ⟨31,269,Y⟩)],OW 304 (O8 #[Oy (Z ⟨31,269,Y⟩)])]).run Ot a=.ok OQ a:=Oo
theorem ym(a):(Px "AssignableTo" P0 #[O8 #[Oy (Z ⟨31,325,Y⟩)],OW 304 (O8 #[Oy (Z ⟨31,269,Y⟩)])]).run Ot a=.ok OD a:=Oo
theorem sK(b:Int)(a):(Qd (OW 269 b)).run Ot a=.ok (O8 #[Oy (Z ⟨31,269,Y⟩),a,U Rh 130]) (a.alloc (A #[b] 269)):=Oo
theorem tt(a):(UC 270).run Ot a=.ok (Z 269) a:=Oo
theorem Cf(a)(b):(SM 269 a Qu).run Ot b=.ok (O8 #[Oy (Z ⟨31,269,Y⟩),Oy (Z a),U Rh 386]) b:=Oo
theorem vY(b c)(a)(d:a.cell? b=Z (Oy (Z c))):(PN (Ph "reflectlite.Value.Elem" 0) Qm #[O8 #[Oy (Z ⟨31,270,Y⟩),Oy (Z b),U Rh 150]]).run Ot a=.ok (O8 #[Oy (Z ⟨31,269,Y⟩),Oy (Z c),U Rh 386]) a:=by rw[FH];simp only[Rr,kG,PC];simp[Qm,SB,UB,R5,WJ,d,PC,tt,Cf]
theorem s7(a)(b):(P7 (O8 #[Oy (Z ⟨31,269,Y⟩),Oy (Z a),U Rh 386])).run Ot b=.ok (Z (269,a,386)) b:=Oo
theorem sW(a)(b):(P7 (O8 #[Oy (Z ⟨31,269,Y⟩),Oy (Z a),U Rh 130])).run Ot b=.ok (Z (269,a,130)) b:=Oo
theorem yh(a):(RX 269 269).run Ot a=.ok OQ a:=Oo
theorem x6(b c:Addr)(d:Int)(e:OU)(a:OB)(hb:a.cell? c=Z (U D d))(f:a.cell? b=Z e)(g:a.frozen? b=OD):(QS #[O8 #[Oy (Z ⟨31,269,Y⟩),Oy (Z b),U Rh 386],O8 #[Oy (Z ⟨31,269,Y⟩),Oy (Z c),U Rh 130]]).run Ot a=.ok (OP #[]) (a.setCell b d):=by rw[KS];simp only[Rr,s7,sW,PC];simp[Qu,SB,UB,R5,Tryz.underlying269,hb,PC,yh,UA,TJ,Vu,UH];rw[VQ Ot a b _ _ Ok];simp[f,g]
theorem yc(b)(c)(a):(Rn (OW 325 b) c 309 OQ).run Ot a=.ok (OP #[PA,OD]) a:=RP Tk Oo Oo b c a
theorem vT(a)(c)(b):(Rn (OW 325 a) c 312 OQ).run Ot b=.ok (OP #[OW 325 a,OQ]) b:=Ty Tj Oo a c b
theorem pj(a)(b):(TC 742 325 (Oy (Z a)) "Unwrap").run Ot b=.ok (513,Oy (Z a)) b:=Oo
theorem FW(b:Nat)(c)(a)(h:a.cell? ⟨b,1,Y⟩=Z (OW 269 c)):OJ Ot 513 #[b] a fun r d=>r=Ov (OW 269 c)/\a=d:=by go_in;go_wp2;go_ret;exact⟨rfl,rfl⟩
theorem H4(j b:Nat)(f:Int)(m)(a)(n:a.q 1 0 (OW 304 (O8 #[Oy (Z ⟨31,64,Y⟩)])))(o:a.cell? ⟨j,1,Y⟩=Z (OW 269 f))(l:a.cell? ⟨b,0,Y⟩=Z m)(p:a.frozen? ⟨b,0,Y⟩=OD):OJ Ot 46 #[OW 325 j,OW 270 b] a fun t q=>t=Ov OQ/\q=((((a.alloc (A #[b] 270)).alloc (A #[Oy (Z ⟨31,270,Y⟩),a,U Rh 150] 198)).alloc (A #[Oy (Z ⟨31,270,Y⟩),a,U Rh 150] 198)).alloc (A #[f] 269)).setCell ⟨b,0,Y⟩ f:=by
 have x:=@O2 Ot 101 _ (fun u=>Qd (u.getD 0 (OP #[]))) Uv Oo Oo Oo Oo;have y:=@O2 Ot 102 _ (QC (Ph "reflectlite.Value.Type" 0) (fun b _ _ _=>QT b)) Uu Oo Oo Oo Oo;have z:=@O2 Ot 103 _ (PN (Ph "reflectlite.Value.IsNil" 0) Qi) Ut Oo Oo Oo Oo;have B:=@O2 Ot 479 _ (P9 fun b=>do pure (U Q9 (<-RQ b))) Uq Oo Oo Oo Oo;have C:=@O2 Ot 504 _ (QM Q5) Uo Oo Oo Oo Oo;have E:=@O2 Ot 505 _ (Px "Implements" Qx) Un Oo Oo Oo Oo;have F:=@O2 Ot 169 _ P5 T1 Oo Oo Oo Oo;have H:=@O2 Ot 502 _ (Px "AssignableTo" P0) Up Oo Oo Oo Oo;have I:=@O2 Ot 170 _ (PN (Ph "reflectlite.Value.Elem" 0) Qm) Us Oo Oo Oo Oo;have K:=@O2 Ot 171 _ QS Ur Oo Oo Oo Oo;have L:=qj;have M:=qe;have N:=dF;have O:=yr;have P:=ym;have Q:=sK;have R:=p9;have S:=sP;have T:=e8;have V:=e9;have W:=dS;have X:=tn;have aa:=vE;have ab:=v7;have ac:=vO;have nA:=yc;have hU:=vT;have mU:=pj;obtain⟨k,c⟩:∃k,a.alloc (A #[b] 270)=k:=⟨_,rfl⟩;obtain⟨i,e⟩:∃i,k.alloc (A #[Oy (Z ⟨31,270,Y⟩),a,U Rh 150] 198)=i:=⟨_,rfl⟩;obtain⟨d,g⟩:∃d,i.alloc (A #[Oy (Z ⟨31,270,Y⟩),a,U Rh 150] 198)=d:=⟨_,rfl⟩;have c1:k.q a 0 b:=by rw[<-c];exact(bi.new a _ _).cell rfl
 have c2:i.q a 0 b:=by rw[<-e];exact a3 _ c1
 have c3:d.q a.heap.size 0 (Oy (Z ⟨b,0,Y⟩)):=by rw[<-g];exact a3 _ c2
 have ad:i.cell? ⟨1,0,Y⟩=Z (OW 304 (O8 #[Oy (Z ⟨31,64,Y⟩)])):=by rw[<-e,<-c];exact a3 _ (a3 _ n)
 have n8:=vJ ⟨a.heap.size,0,Y⟩ ⟨b,0,Y⟩ i c2;have el:=vY ⟨a.heap.size,0,Y⟩ ⟨b,0,Y⟩ d c3;have r:d.cell? ⟨j,1,Y⟩=Z (OW 269 (U D f)):=by rw[<-g,<-e,<-c];exact a3 _ (a3 _ (a3 _ o))
 have v:=Pr a _ l;have s:d.heap.size=a.heap.size+1+1+1:=by rw[<-g,<-e,<-c];simp
 have st:=x6 ⟨b,0,Y⟩ ⟨d.heap.size,0,Y⟩ f m (d.alloc (A #[(U D f)] 269)) ((bi.new d _ _).cell rfl) (by rw[<-g,<-e,<-c];exact a3 _ (a3 _ (a3 _ (a3 _ l)))) (by simp only at v;rw[PX _ _ _ Ol,<-g,PX _ _ _ (by rw[<-e,<-c];simp;omega),<-e,PX _ _ _ (by rw[<-c];simp;omega),<-c,PX _ _ _ Ol];exact p);have w:=G (FW j (U D f) d r);rw[s]at st;have ae:=G g;clear n o l p c1 c2 c3 r s;rw[c,e,g];subst g;subst e;subst c;go_in;go_wp2;refine PI 2 ?_;rw[Pw];go_wp2_with(go_at_call 513;(with_reducible refine w.o.mono ?_);rintro f q⟨rfl,rfl⟩);rw[Pw];go_wp2;go_ret;exact⟨rfl,rfl⟩
theorem qa(b)(a):(Qd (OW 382 (Oy (Z b)))).run Ot a=.ok (O8 #[Oy (Z ⟨31,382,Y⟩),a,U Rh 150]) (a.alloc (A #[Oy (Z b)] 382)):=Oo
theorem sQ(b)(a):(QC (Ph "reflectlite.Value.Type" 0) (fun c _ _ _=>QT c) #[O8 #[Oy (Z ⟨31,382,Y⟩),Oy (Z b),U Rh 150]]).run Ot a=.ok (OW 304 (O8 #[Oy (Z ⟨31,382,Y⟩)])) a:=Oo
theorem to(b):((P9 fun c=>Functor.map (fun a:Nat=>U Q9 (a:Int)) (RQ c)) #[Oy (Z ⟨31,382,Y⟩)]).run Ot b=.ok (U Q9 22) b:=Oo
theorem vF(b):((P9 fun c=>Functor.map (fun a:Nat=>U Q9 (a:Int)) (RQ c)) #[Oy (Z ⟨31,381,Y⟩)]).run Ot b=.ok (U Q9 2) b:=Oo
theorem kH(a)(b):(P7 (O8 #[Oy (Z ⟨31,382,Y⟩),Oy (Z a),U Rh 150])).run Ot b=.ok (Z (382,a,150)) b:=Oo
theorem vK(b c)(a)(d:a.cell? b=Z (Oy (Z c))):(PN (Ph "reflectlite.Value.IsNil" 0) Qi #[O8 #[Oy (Z ⟨31,382,Y⟩),Oy (Z b),U Rh 150]]).run Ot a=.ok OD a:=by rw[FH];simp only[Rr,kH,PC];simp[Qi,SB,UB,R5,WH,d,PC]
theorem v8(a):(QM Q5 #[O8 #[Oy (Z ⟨31,382,Y⟩)]]).run Ot a=.ok (OW 304 (O8 #[Oy (Z ⟨31,381,Y⟩)])) a:=Oo
theorem vP(a):(Px "Implements" Qx #[O8 #[Oy (Z ⟨31,381,Y⟩)],OW 304 (O8 #[Oy (Z ⟨31,64,Y⟩)])]).run Ot a=.ok OQ a:=Oo
theorem qk(b)(a):(P5 #[OW 381 b]).run Ot a=.ok (OW 304 (O8 #[Oy (Z ⟨31,381,Y⟩)])) a:=Oo
theorem qf(b)(a):(P5 #[OW 449 b]).run Ot a=.ok (OW 304 (O8 #[Oy (Z ⟨31,449,Y⟩)])) a:=Oo
theorem ys(a):(Px "AssignableTo" P0 #[O8 #[Oy (Z ⟨31,381,Y⟩)],OW 304 (O8 #[Oy (Z ⟨31,381,Y⟩)])]).run Ot a=.ok OQ a:=Oo
theorem yn(a):(Px "AssignableTo" P0 #[O8 #[Oy (Z ⟨31,449,Y⟩)],OW 304 (O8 #[Oy (Z ⟨31,381,Y⟩)])]).run Ot a=.ok OD a:=Oo
theorem sL(b:Int)(a):(Qd (OW 381 b)).run Ot a=.ok (O8 #[Oy (Z ⟨31,381,Y⟩),a,U Rh 130]) (a.alloc (A #[b] 381)):=Oo
theorem tu(a):(UC 382).run Ot a=.ok (Z 381) a:=Oo
theorem Cg(a)(b):(SM 381 a Qu).run Ot b=.ok (O8 #[Oy (Z ⟨31,381,Y⟩),Oy (Z a),U Rh 386]) b:=Oo
theorem vZ(b c)(a)(d:a.cell? b=Z (Oy (Z c))):(PN (Ph "reflectlite.Value.Elem" 0) Qm #[O8 #[Oy (Z ⟨31,382,Y⟩),Oy (Z b),U Rh 150]]).run Ot a=.ok (O8 #[Oy (Z ⟨31,381,Y⟩),Oy (Z c),U Rh 386]) a:=by rw[FH];simp only[Rr,kH,PC];simp[Qm,SB,UB,R5,WH,d,PC,tu,Cg]
theorem s8(a)(b):(P7 (O8 #[Oy (Z ⟨31,381,Y⟩),Oy (Z a),U Rh 386])).run Ot b=.ok (Z (381,a,386)) b:=Oo
theorem sX(a)(b):(P7 (O8 #[Oy (Z ⟨31,381,Y⟩),Oy (Z a),U Rh 130])).run Ot b=.ok (Z (381,a,130)) b:=Oo
theorem yi(a):(RX 381 381).run Ot a=.ok OQ a:=Oo
theorem x7(b c:Addr)(d:Int)(e:OU)(a:OB)(hb:a.cell? c=Z (U D d))(f:a.cell? b=Z e)(g:a.frozen? b=OD):(QS #[O8 #[Oy (Z ⟨31,381,Y⟩),Oy (Z b),U Rh 386],O8 #[Oy (Z ⟨31,381,Y⟩),Oy (Z c),U Rh 130]]).run Ot a=.ok (OP #[]) (a.setCell b d):=by rw[KS];simp only[Rr,s8,sX,PC];simp[Qu,SB,UB,R5,Tryz.underlying381,hb,PC,yi,UA,TJ,Vu,UH];rw[VQ Ot a b _ _ Ok];simp[f,g]
theorem yd(b)(c)(a):(Rn (OW 449 b) c 309 OQ).run Ot a=.ok (OP #[PA,OD]) a:=RP Tk Oo Oo b c a
theorem vU(a)(c)(b):(Rn (OW 449 a) c 312 OQ).run Ot b=.ok (OP #[OW 449 a,OQ]) b:=Ty Tj Oo a c b
theorem pk(a)(b):(TC 742 449 (Oy (Z a)) "Unwrap").run Ot b=.ok (522,Oy (Z a)) b:=Oo
theorem FX(b:Nat)(c)(a)(h:a.cell? ⟨b,1,Y⟩=Z (OW 381 c)):OJ Ot 522 #[b] a fun r d=>r=Ov (OW 381 c)/\a=d:=by go_in;go_wp2;go_ret;exact⟨rfl,rfl⟩
theorem H5(j b:Nat)(f:Int)(m)(a)(n:a.q 1 0 (OW 304 (O8 #[Oy (Z ⟨31,64,Y⟩)])))(o:a.cell? ⟨j,1,Y⟩=Z (OW 381 f))(l:a.cell? ⟨b,0,Y⟩=Z m)(p:a.frozen? ⟨b,0,Y⟩=OD):OJ Ot 46 #[OW 449 j,OW 382 b] a fun t q=>t=Ov OQ/\q=((((a.alloc (A #[b] 382)).alloc (A #[Oy (Z ⟨31,382,Y⟩),a,U Rh 150] 198)).alloc (A #[Oy (Z ⟨31,382,Y⟩),a,U Rh 150] 198)).alloc (A #[f] 381)).setCell ⟨b,0,Y⟩ f:=by
 have x:=@O2 Ot 101 _ (fun u=>Qd (u.getD 0 (OP #[]))) Uv Oo Oo Oo Oo;have y:=@O2 Ot 102 _ (QC (Ph "reflectlite.Value.Type" 0) (fun b _ _ _=>QT b)) Uu Oo Oo Oo Oo;have z:=@O2 Ot 103 _ (PN (Ph "reflectlite.Value.IsNil" 0) Qi) Ut Oo Oo Oo Oo;have B:=@O2 Ot 479 _ (P9 fun b=>do pure (U Q9 (<-RQ b))) Uq Oo Oo Oo Oo;have C:=@O2 Ot 504 _ (QM Q5) Uo Oo Oo Oo Oo;have E:=@O2 Ot 505 _ (Px "Implements" Qx) Un Oo Oo Oo Oo;have F:=@O2 Ot 169 _ P5 T1 Oo Oo Oo Oo;have H:=@O2 Ot 502 _ (Px "AssignableTo" P0) Up Oo Oo Oo Oo;have I:=@O2 Ot 170 _ (PN (Ph "reflectlite.Value.Elem" 0) Qm) Us Oo Oo Oo Oo;have K:=@O2 Ot 171 _ QS Ur Oo Oo Oo Oo;have L:=qk;have M:=qf;have N:=dF;have O:=ys;have P:=yn;have Q:=sL;have R:=qa;have S:=sQ;have T:=e8;have V:=e9;have W:=dS;have X:=to;have aa:=vF;have ab:=v8;have ac:=vP;have nA:=yd;have hU:=vU;have mU:=pk;obtain⟨k,c⟩:∃k,a.alloc (A #[b] 382)=k:=⟨_,rfl⟩;obtain⟨i,e⟩:∃i,k.alloc (A #[Oy (Z ⟨31,382,Y⟩),a,U Rh 150] 198)=i:=⟨_,rfl⟩;obtain⟨d,g⟩:∃d,i.alloc (A #[Oy (Z ⟨31,382,Y⟩),a,U Rh 150] 198)=d:=⟨_,rfl⟩;have c1:k.q a 0 b:=by rw[<-c];exact(bi.new a _ _).cell rfl
 have c2:i.q a 0 b:=by rw[<-e];exact a3 _ c1
 have c3:d.q a.heap.size 0 (Oy (Z ⟨b,0,Y⟩)):=by rw[<-g];exact a3 _ c2
 have ad:i.cell? ⟨1,0,Y⟩=Z (OW 304 (O8 #[Oy (Z ⟨31,64,Y⟩)])):=by rw[<-e,<-c];exact a3 _ (a3 _ n)
 have n8:=vK ⟨a.heap.size,0,Y⟩ ⟨b,0,Y⟩ i c2;have el:=vZ ⟨a.heap.size,0,Y⟩ ⟨b,0,Y⟩ d c3;have r:d.cell? ⟨j,1,Y⟩=Z (OW 381 (U D f)):=by rw[<-g,<-e,<-c];exact a3 _ (a3 _ (a3 _ o))
 have v:=Pr a _ l;have s:d.heap.size=a.heap.size+1+1+1:=by rw[<-g,<-e,<-c];simp
 have st:=x7 ⟨b,0,Y⟩ ⟨d.heap.size,0,Y⟩ f m (d.alloc (A #[(U D f)] 381)) ((bi.new d _ _).cell rfl) (by rw[<-g,<-e,<-c];exact a3 _ (a3 _ (a3 _ (a3 _ l)))) (by simp only at v;rw[PX _ _ _ Ol,<-g,PX _ _ _ (by rw[<-e,<-c];simp;omega),<-e,PX _ _ _ (by rw[<-c];simp;omega),<-c,PX _ _ _ Ol];exact p);have w:=G (FX j (U D f) d r);rw[s]at st;have ae:=G g;clear n o l p c1 c2 c3 r s;rw[c,e,g];subst g;subst e;subst c;go_in;go_wp2;refine PI 2 ?_;rw[Pw];go_wp2_with(go_at_call 522;(with_reducible refine w.o.mono ?_);rintro f q⟨rfl,rfl⟩);rw[Pw];go_wp2;go_ret;exact⟨rfl,rfl⟩
end
section
open Go.RowKit Go.Lib Go.Shelf
attribute[local go_sem]Oper.semAt_some
def N5(a:OB):Prop:=a.cell? ⟨1,0,Y⟩=Z (OW 304 (O8 #[Oy (Z ⟨31,64,Y⟩)]))
theorem N5.below{a b}(h:N5 a)(hb:OE a a b):N5 b:=ac h hb
theorem EK{a c d:OB}{f:Nat}(h:OE a.heap.size a c)(g:c.grownBy d (Z f))(i:a.heap.size<=f:=by omega):OE a.heap.size a d:=h.grown g h.size (fun b e=>by cases e;exact i)
theorem BX(d b:Nat)(f:Int)(a:OB)(m:N5 a)(n:a.q d 1 (OW 131 (Oy (Z ⟨b,0,Y⟩))))(g:a.cell? ⟨b,0,Y⟩=Z (U D f)):OJ Ot 23 #[OW 221 d] a fun e q=>e=Ov f/\OE a.heap.size a q:=by
 obtain⟨c,o,_⟩:=d5 a #[Oy Y] 131;have r:=G (H8 d a ⟨b,0,Y⟩ (Oy Y) _ (a3 _ m) (a3 _ n) (c.cell rfl) (c.frozen 0));have p:=a3 (A #[Oy Y] 131) g;have s:=Pr a _ g;have t:=G p;have u:=G c;have v:=G o;simp only at s;clear m n g c p o;go_in;go_wp2_with fail;with_reducible refine(r.o).mono ?_
 rintro i j⟨rfl,k⟩;have l:(a.alloc (A #[Oy Y] 131)).grownBy j (Z a):=by rw[k];exact(e4.af (((((Ow _ _).alloc (Ox _) _).alloc On _).alloc On _).alloc On _)).trans (e4.setCell _ _ _ _)
 have y:j.q a 0 b:=by have w:=(((((u.o.alloc (A #[a] 132)).alloc (A #[Oy (Z ⟨31,132,Y⟩),(a.alloc (A #[Oy Y] 131)),U Rh 150] 198)).alloc (A #[Oy (Z ⟨31,132,Y⟩),(a.alloc (A #[Oy Y] 131)),U Rh 150] 198)).alloc (A #[b] 131)).set 0 b);rw[k];exact w.cell rfl
 have c1:j.q b 0 f:=(QU (l.block b Ol (by intro i;injection i with i;omega))).trans t.o;have x:=G (EK v.o l);clear k l;go_wp2;go_ret;exact⟨rfl,x.o⟩
end
section
open Tr
def Tr.bP.raw(a:bP):ki:=⟨(a.size:Int),a.ae.map fun x:Nat=>(x:Int),(a.elem:Int),a.ad.map fun x:Nat=>(x:Int)⟩
theorem oj{k:Nat}{c}(h:fI (k:Int) c=OQ):∃m,c=m.map (fun x:Nat=>(x:Int))/\im k m:=by
 unfold fI at h;rw[Sb]at h;have g:∀a,a<c.length->wG c a<c.getD a 0/\c.getD a 0<(k:Int)/\(c.getD a 0).tmod 4=0:=fun a g=>by have:=h a (Qg.2 g);unfold Bg at this;simpa using this
 have h0:∀a,a<c.length->0<=c.getD a 0:=by intro a;induction a with|zero=>intro hl;have:=(g 0 hl).1;simp only[wG,Ub]at this;omega|succ a l=>intro hl;have d:=(g (a+1) hl).1;have e:=l Oq;simp only[wG,TK]at d;rw[O3 Oq]at d;omega
 have i:∀a(hl:a<c.length),c.getD a 0=c[a]:=fun a hl=>by rw[OL,Oz hl];rfl
 have n:∀f b,b+f+1<c.length->c.getD b 0<c.getD (b+f+1) 0:=by intro f;induction f with|zero=>intro b hl;have d:=(g (b+1) hl).1;simp only[wG,TK]at d;rw[O3 Oq]at d;exact d|succ f l=>intro b hl;have d:=l b Oq;have e:=(g (b+(f+1)+1) hl).1;simp only[wG,TK]at e;rw[O3 Oq]at e;rw[show b+(f+1)=b+f+1 by omega]at e⊢;omega
 refine⟨c.map Int.toNat,?_,?_,?_⟩;·rw[Vm];refine(List.ext_getElem On fun a d e=>?_);simp only[List.getElem_map,Function.comp];have:=h0 a d;rw[i a d]at this;omega
 ·rw[Ql];intro b a j hl q;simp only[List.getElem_map];rw[O7]at j hl;have d:=n (a-b-1) b Oq;rw[show b+(a-b-1)+1=a by omega,i b j,i a hl]at d;have e:=h0 b j;rw[i b j]at e;omega
 ·intro r o;obtain⟨s,p,rfl⟩:=Pf.1 o;obtain⟨a,hl,rfl⟩:=List.getElem_of_mem p;have d:=g a hl;have e:=h0 a hl;rw[i a hl]at d e;have t:=(LN c[a]).1 d.2.2;omega
theorem oU{e}{a}(h:im e a):fI (e:Int) (a.map fun x:Nat=>(x:Int))=OQ:=by unfold fI;rw[Sb];intro c b;have b:=Qg.1 b;rw[O7]at b;(have f:∀d(g:d<a.length),(a.map fun x:Nat=>(x:Int)).getD d 0=(a[d]:Int):=fun d g=>by rw[OL,Oz (by simpa using g)];simp);have i:=h.2 a[c] (QQ b);unfold Bg;rw[f c b,PD];refine⟨?_,Oq,(LN _).2 Oq⟩;unfold wG;split;(·omega);·rw[f (c-1) Oq];have:=Ql.1 h.1 (c-1) c Oq b Oq;omega
theorem qR{a}(h:fw a=OQ):∃b,dk b/\a=b.raw:=by obtain⟨n,ps,o,p⟩:=a;simp only[fw,Sd,iN,PD,LN]at h;obtain⟨⟨c,q,r⟩,⟨d,s,t⟩,e,f⟩:=h;obtain⟨g,rfl⟩:=Sn c;obtain⟨i,rfl⟩:=Sn d;obtain⟨j,rfl,k⟩:=oj e;obtain⟨l,rfl,m⟩:=oj f;exact⟨⟨g,j,i,l⟩,⟨by simp only;omega,by simp only;omega,by simp only;omega,by simp only;omega,k,m⟩,rfl⟩
theorem gI{a:bP}(h:dk a):fw a.raw=OQ:=by have b:=h.s1;have c:=h.s2;have d:=h.e1;have e:=h.e2;simp only[fw,bP.raw,Sd,iN,PD,LN];exact⟨Oq,Oq,oU h.p,oU h.q⟩
theorem i5{d f:bP}(h:d.raw=f.raw):d=f:=by cases d;cases f;simp only[bP.raw,ki.mk.injEq]at h;obtain⟨m,i,n,j⟩:=h;(have g:∀b a:List Nat,(b.map fun c:Nat=>(c:Int))=(a.map fun c:Nat=>(c:Int))->b=a:=by intro b;induction b with|nil=>intro a e;(cases a with|nil=>rfl|cons k a=>simp at e)|cons c b l=>intro a e;cases a with|nil=>simp at e|cons k a=>simp only[Qv,Rt]at e;rw[l a e.2];congr 1;omega);rw[bP.mk.injEq];exact⟨Oq,g _ _ i,Oq,g _ _ j⟩
end
section
open Go.RowKit Go.Lib Go.Shelf Tr
attribute[local go_sem]Oper.semAt_some
def Mn(a:OB)(d:OU)(e:Int):Prop:=∃b c,d=OW 221 (Oy (Z ⟨b,0,Y⟩))/\a.cell? ⟨b,1,Y⟩=Z (OW 131 (Oy (Z ⟨c,0,Y⟩)))/\a.cell? ⟨c,0,Y⟩=Z (U D e)
def zi(a:ki):Int:=if 0<a.elem then(131064-a.size)/a.elem else 0
theorem q4(a)(h:dk a):zi a.raw=(cL a:Int):=by have c:=h.s1;have b:zi a.raw=if(0:Int)<(a.elem:Int)then(131064-(a.size:Int))/(a.elem:Int)else 0:=rfl;rw[b];unfold cL;by_cases h0:a.elem=0;(·rw[O3 (show¬(0:Int)<(a.elem:Int)by omega),Pa h0];rfl);·rw[Pa (show(0:Int)<(a.elem:Int)by omega),O3 h0,Int.natCast_ediv];congr 1;omega
theorem cU:(Ot.info? 62).map (·.size)=Z 5:=Oo
theorem gF(a b c:Int)(d e)(f g i j):(#[a,J d f g,b,J e i j,c]:Array OU).all (·.oneCell')=OQ:=by simp[Value.oneCell']
theorem sB(O)(t u)(b)(d:Int)(m:dk b)(h0:0<=d)(B:d<=(cL b:Int))(e)(h:Nu O e t u b.raw):OJ Ot 22 #[b.raw.v t u,d] e fun r T=>r=Ov (OP #[O8 #[(b.size:Int),t,(b.elem:Int),u,d],PA])/\OE e e T:=by have n:=G (fun W(V:e.B W)=>hO O t u b.raw W (h.below V));obtain⟨v,w,rfl,_,_⟩:=h.p.sl;obtain⟨y,z,rfl,_,_⟩:=h.q.sl;rw[gI m]at n;have X:=m.s1;have e1:=m.e1;obtain⟨f,P⟩:∃f:Int,(b.size:Int)=f:=⟨_,rfl⟩;obtain⟨a,Q⟩:∃a:Int,(b.elem:Int)=a:=⟨_,rfl⟩;have C:=q4 b m;simp only[ki.v,bP.raw,zi,P,Q]at n C⊢;obtain⟨j,R⟩:∃j,(b.ae.map fun x:Nat=>(x:Int)).length=j:=⟨_,rfl⟩;obtain⟨k,S⟩:∃k,(b.ad.map fun x:Nat=>(x:Int)).length=k:=⟨_,rfl⟩;rw[R,S]at n⊢;rw[<-C]at B;have s0:0<=f/\f<=1024:=Oq;have e0:0<=a/\a<=256:=Oq;clear h R S P Q C X e1 m;by_cases l:0<a;(·rw[Pa l]at B;(have g0:decide (0<a)=OQ:=by simpa using l);have gn:(a==0)=OD:=Ol;have gm:¬a=0:=Oq;have g1:decide (d<0)=OD:=Ol;have g2:decide ((131064-f)/a<d)=OD:=Ol;clear l;go_in;go_wp2_with fail;obtain⟨o,p,i,_⟩:=ew e #[f,J v j w,a,J y k z] #[(),J Y 0 0,(),J Y 0 0,()] 25 62;(with_reducible refine(n.o _ i).mono ?_);rintro aa w1⟨rfl,g⟩;have c:=o.below g (by simp;try omega);have q:=p.below g (by simp;try omega);have E:=G (i.trans (g.mono (by simp;try omega)));have c0:=c.cell (k:=0) rfl;have c2:=c.cell (k:=2) rfl;have c1:=c.cell (k:=1) rfl;have c3:=c.cell (k:=3) rfl;have F:=G q;clear c q o p i g;go_wp2_with(refine cI rfl 62 _ _ rfl _ _ #[f,J v j w,a,J y k z,d] 62 F.o rfl rfl cU rfl (gF _ _ _ _ _ _ _ _ _) ?_;intro H I K s L;have M:=G (E.o.trans (s _ (P6 _)));clear K s L);have N:=P4 H (e+1) 62 62 _ (0,0) _ I S1 rfl cU;exact OM (ca rfl _ _ _ _ _ rfl rfl N) rfl ⟨rfl,M.o⟩);·rw[O3 l]at B;(have g0:decide (0<a)=OD:=by simpa using l);have g1:decide (d<0)=OD:=Ol;have g2:decide (0<d)=OD:=Ol;clear l;go_in;go_wp2_with fail;obtain⟨o,p,i,_⟩:=ew e #[f,J v j w,a,J y k z] #[(),J Y 0 0,(),J Y 0 0,()] 25 62;(with_reducible refine(n.o _ i).mono ?_);rintro aa w1⟨rfl,g⟩;have c:=o.below g (by simp;try omega);have q:=p.below g (by simp;try omega);have E:=G (i.trans (g.mono (by simp;try omega)));have c0:=c.cell (k:=0) rfl;have c2:=c.cell (k:=2) rfl;have c1:=c.cell (k:=1) rfl;have c3:=c.cell (k:=3) rfl;have F:=G q;clear c q o p i g;go_wp2_with(refine cI rfl 62 _ _ rfl _ _ #[f,J v j w,a,J y k z,d] 62 F.o rfl rfl cU rfl (gF _ _ _ _ _ _ _ _ _) ?_;intro H I K s L;have M:=G (E.o.trans (s _ (P6 _)));clear K s L);have N:=P4 H (e+1) 62 62 _ (0,0) _ I S1 rfl cU;exact OM (ca rfl _ _ _ _ _ rfl rfl N) rfl ⟨rfl,M.o⟩
end
namespace Ad
open Go.RowKit Go.Lib
theorem qC(c:Int)(a)(g d i)(j:dX a g d i)(h:1<=c)(k:c<=131072):OJ Ot 372 #[c] a fun e b=>e=Ov (OP #[U D ((c+4096-1)/4096),()])/\OE a a b:=by have l:=j.cS.1;go_in;go_wp2_with fail;go_region_held3(fun b=>b.q 0 0 (OW 612 (Oy (Z d))))(first|(show RI _ _=_;repeat' first|exact l|refine a5 ?_|refine a3 _ ?_))(first|(go_at_call 60;refine(iF c _ h k).mono ?_;rintro f b⟨rfl,rfl⟩)|(go_at_call 59;refine(d2 _ d _).mono ?_;rintro f b⟨rfl,rfl⟩)|(go_at_call 58;refine(na d a).mono ?_;rintro f b⟨rfl,rfl⟩));go_wp2;go_ret2;exact⟨rfl,(ky OQ d a).2.2.2⟩
theorem pR(a:Int)(b)(d i j)(k:dX b d i j)(h:0<=a)(l:a<131072)(f:a%8=0):OJ Ot 187 #[a] b fun e c=>e=Ov (OP #[U D (a/8+1),()])/\OE b b c:=by have m:=k.cA.1;(have n:(a.tmod 8==0)=OQ:=by rw[R2 h];simpa using f);(have o:(a%8==0)=OQ:=by simpa using f);clear f;go_in;go_wp2_with fail;go_region_held3(fun c=>c.q 2 0 (OW 612 (Oy (Z d))))(first|(show RI _ _=_;repeat' first|exact m|refine a5 ?_|refine a3 _ ?_))(first|(go_at_call 239;refine(jt a _ h l).mono ?_;rintro g c⟨rfl,rfl⟩)|(go_at_call 59;refine(d2 _ d _).mono ?_;rintro g c⟨rfl,rfl⟩)|(go_at_call 58;refine(na d b).mono ?_;rintro g c⟨rfl,rfl⟩));go_wp2;go_ret2;exact⟨rfl,(ky OQ d b).2.2.2⟩
theorem wD(d:Int)(a)(f g b)(i:dX a f g b)(h:d<1):OJ Ot 143 #[d] a fun e c=>e=Ov (OP #[(),(12:Int)])/\OE a a c:=by have k:=i.cR.1;go_in;(go_wp2_with first|(go_at_call 59;refine(d2 _ b _).mono ?_;rintro j c⟨rfl,rfl⟩)|(go_at_call 58;refine(rI a f g b i).mono ?_;rintro j c⟨rfl,rfl⟩));go_ret2;exact⟨rfl,(gx OD b a).2.2.2⟩
theorem wC(b:Int)(a)(f g c)(i:dX a f g c)(h:1<=b)(j:16384<b):OJ Ot 143 #[b] a fun e d=>e=Ov (OP #[(),(12:Int)])/\OE a a d:=by have l:=i.cR.1;(have m:decide (b<=16384)=OD:=by simpa using j);go_in;(go_wp2_with first|(go_at_call 59;refine(d2 _ c _).mono ?_;rintro k d⟨rfl,rfl⟩)|(go_at_call 58;refine(rI a f g c i).mono ?_;rintro k d⟨rfl,rfl⟩));go_ret2;exact⟨rfl,(gx OD c a).2.2.2⟩
theorem nB(b:Int)(a)(f g c)(i:dX a f g c)(h:1<=b)(k:b<=16384):OJ Ot 143 #[b] a fun e d=>e=Ov (OP #[U D ((b-1)*8),()])/\OE a a d:=by have l:=i.cR.1;go_in;(go_wp2_with first|(go_at_call 59;refine(d2 _ c _).mono ?_;rintro j d⟨rfl,rfl⟩)|(go_at_call 58;refine(CB c a).mono ?_;rintro j d⟨rfl,rfl⟩));go_ret2;exact⟨rfl,(gx OQ c a).2.2.2⟩
end Ad
end Go.Proofs.YtpcaenpbejcagaaGreatDoor
