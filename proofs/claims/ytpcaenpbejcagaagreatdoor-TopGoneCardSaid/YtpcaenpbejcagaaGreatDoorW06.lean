/- Lemmas for TopHalf and TopGone. Conditions: the listed variables hold what their initialisers lay. -/
import Derived.Test.YtpcaenpbejcagaaGreatDoorW05
import Derived.Lib.BitFns
import Derived.Lib.SlBuf
import Derived.Maps.OwnIn
set_option linter.all false
set_option maxRecDepth 100000
set_option maxHeartbeats 4000000
open BitVec renaming ofInt->Re,ofNat->U4
open Bool renaming false->OD,true->OQ
open Go renaming World->OB,Calls->OJ,Value->OU,maxLen->QE,KeepsFrom->SE,TypeId->SG,OwnFrom->Tm,bits->Ww
open Go.Ending renaming returned->Ov
open Go.Fence renaming wide->Qs
open Go.Instr renaming makeSlice->TO
open Go.IntKind renaming i64->D,u32->Pq
open Go.Lib renaming intOf->Pd,pop8tab->UK
open Go.Obj renaming cells->A,deferred->Ps,loop->PO
open Go.Proofs.Tryz renaming prog->Ot,underlying146->SU
open Go.RowKit renaming Below->OE
open Go.Value renaming int->U,slice->J,tuple->OP,agg->O8,func->Pt,nilIface->PA,ownBlock->PL,bool->QK
open Go.World renaming cell?->RI,putObj->Wg
open List renaming replicate->PY,range->Qj
open Option renaming some->Z,none->Y
open Or renaming inl->O4,inr->Pu
namespace Go.Proofs.YtpcaenpbejcagaaGreatDoor
abbrev Sz:=@Go.wpListIn_append_own_at
abbrev Vv:=@Go.Lib.wpList_copy_run
namespace Tr
theorem qt{d:Nat}{e:List cF}:∀{z:cj},(∀a∈e,a.2-a.1<=128/\a.1/4096=d/\a.1<a.2)->∀b,cp (e.foldl (dV d) z) b=OQ->cp z b=OQ\/∃a∈e,b=dy a.1\/b=dy a.1+1:=by induction e with|nil=>exact fun _ _ h=>O4 h|cons c e l=>intro z hl b m;rcases l (z:=dV d z c) (fun a g=>hl a (P3 _ g)) b m with h|⟨a,g,h⟩;(·obtain⟨q,r,s⟩:=hl c (PQ ..);(have i:∀f:Nat,(f:Int)≠((c.1:Int)-(d:Int)*4096)/128->dV d z c f=max (z f) 0:=fun f n=>by simp only[dV,hJ,FI];rw[Pa Oq,O3 n]);by_cases j:b=dy c.1;(·exact Pu ⟨c,PQ ..,O4 j⟩);·by_cases k:b=dy c.1+1;(·exact Pu ⟨c,PQ ..,Pu k⟩);·left;(have o:(b:Int)≠((c.1:Int)-(d:Int)*4096)/128:=by unfold dy at j;omega);rw[By]at h⊢;rw[i b o]at h;rcases h with h|⟨h0,h⟩;(·left;omega);·(have p:((b-1:Nat):Int)≠((c.1:Int)-(d:Int)*4096)/128:=by unfold dy at k;omega);rw[i _ p]at h;right;exact⟨h0,Oq⟩);·exact Pu ⟨a,P3 _ g,h⟩
theorem lY(a):cp (fun _=>0) a=OD:=by simp[cp]
theorem yC{b:Nat}{c:List cF}(hl:∀a∈c,a.2-a.1<=128/\a.1/4096=b/\a.1<a.2)(f:∀d,d<32->cp (c.foldl (dV b) fun _=>0) d=OQ):16<=c.length:=by(have g:Qj 32⊆c.map (fun a=>dy a.1)++c.map (fun a=>dy a.1+1):=fun d i=>by rcases qt hl d (f d (Qg.1 i))with h|⟨a,e,h⟩;(·rw[lY]at h;cases h);·rw[PU,Pf,Pf];rcases h with h|h;(·exact O4 ⟨a,e,h.symm⟩);·exact Pu ⟨a,e,h.symm⟩);have:=T7 List.nodup_range g;simp at this;omega
theorem qq(c:List cF)(g:Nat):∀a,(∀f,f<a->g<=(c.filter fun e=>decide (e.1/4096=f)).length)->g*a<=(c.filter fun e=>decide (e.1/4096<a)).length:=by intro a;induction a with|zero=>exact fun _=>On|succ a d=>intro h;have k:=d fun f hb=>h f Oq;have l:=h a Oq;(have:(c.filter fun b=>decide (b.1/4096<a+1)).length=(c.filter fun b=>decide (b.1/4096<a)).length+(c.filter fun b=>decide (b.1/4096=a)).length:=by clear d h k l;induction c with|nil=>rfl|cons b c d=>rw[Q7,Q7,Q7];by_cases i:b.1/4096<a;(·simp[i,show b.1/4096<a+1 by omega,show¬b.1/4096=a by omega,d];omega);·by_cases j:b.1/4096=a;(·simp[j,d];omega);·simp[i,j,show¬b.1/4096<a+1 by omega,d]);rw[this,Nat.mul_succ];omega
theorem Ii{c:cQ}{d:List cF}(h:ei c)(n:fF c d)(k:∀b∈d,b.2-b.1<=128)(h0:∀a:Nat,(cq d c).st[a]?≠Z 0)(B:∀a:Nat,(cq d c).st[a]?≠Z 1):16*c.st.length<=d.length:=by
 obtain⟨hr,o,C,E⟩:=nv h n;have i:=hm (L:=d) h.pr c.st.length (Ox _);have p:∀a:Nat,(cq d c).st[a]?≠Z 3:=fun a hb=>by have q:c.st[a]?=Z 3:=i.bd h.pr hb;have:=i.head a 3 q Oq;rw[Pa (cM q)]at this;have F:(dh d (c.st,c.tb) c.st.length).1[a]?=Z 3:=hb;rw[F]at this;(have r:fM d a=OQ:=by cases b:fM d a with|true=>rfl|false=>simp[eH,b]at this);simp only[fM,Tt,PD]at r;obtain⟨b,j,H⟩:=r;obtain⟨_,P,_,c3⟩:=(C.ax b j).1 (by have:=k b j;omega);rw[H,hb]at c3;rcases c3 with c3|c3|c3;(·cases c3.1);(·cases c3);·cases c3.1
 have I:∀a:Nat,(cq d c).st[a]?≠Z 4:=by intro a;induction a with|zero=>intro hb;obtain⟨s,b,_⟩:=hr.pr.whole 0 hb;omega|succ a K=>intro hb;obtain⟨s,b,hc⟩:=hr.pr.whole _ hb;have:s=a:=Oq;subst this;rcases hc with hc|hc;(·exact p _ hc);·exact K hc
 have L:∀a,a<c.st.length->∀t,t<32->cp (cy d a) t=OQ:=fun a hb=>by have b:c.st[a]?=Z c.st[a]:=Oz hb;have l:(cq d c).st[a]?=Z ((cq d c).st[a]'(by rw[o];exact hb)):=Oz _;have Q:=hr.pr.aE a _ l;(have e:(cq d c).st[a]?=Z 2:=by rw[l];congr 1;have u:=h0 a;have v:=B a;have w:=p a;have y:=I a;have z:=E a;rw[l]at u v w y z;generalize(cq d c).st[a]'(by rw[o];exact hb)=g at*;have:g≠0/\g≠1/\g≠3/\g≠4/\g≠5:=⟨fun b=>u (by rw[b]),fun b=>v (by rw[b]),fun b=>w (by rw[b]),fun b=>y (by rw[b]),fun b=>z (by rw[b])⟩;omega);(have M:c.st[a]≠4:=fun N=>by rw[N]at b;have m:(dh d (c.st,c.tb) c.st.length).1[a]?=Z 2:=e;rcases i.four h.pr b with f|f<;>(rw[m]at f;cases f));have:=i.head a _ b M;have m:(dh d (c.st,c.tb) c.st.length).1[a]?=Z 2:=e;rw[Pa hb,m]at this;have:=OC this;unfold eH at this;split at this;(·omega);·split at this;(·split at this<;>omega);·rcases eo (cy d a)with f|f|f;(·omega);(·omega);·exact f.2
 have O:∀a,a<c.st.length->16<=(d.filter fun b=>decide (b.1/4096=a)).length:=fun a hb=>by(have b:de d a=d.filter fun b=>decide (b.1/4096=a):=by unfold de;refine Sl fun b j=>?_;have:=k b j;simp;omega);rw[<-b];refine yC (b:=a) (fun x e=>?_) (L a hb);simp only[de,QF,Sd,PD]at e;exact⟨k x e.1,e.2.2,(n.ai.one x e.1).1⟩
 have:=qq d 16 c.st.length O;exact Pm this (Qo _ _)
end Tr
section
open Go.RowKit Go.Lib Go.Shelf
def uR(a:SG):Bool:=a==5||a==148||a==86||a==324||a==277||a==344||a==77||a==81||a==498||a==146||a==175||a==168||a==170||a==260||a==64||a==30||a==100||a==105||a==57
def Np(c:Nat)(d:OB)(a:Nat):Prop:=a<c\/∃e b f,d.heap[a]?=Z (A e b f)/\uR b=OD
structure N1(n:Nat)(W W':OB):Prop where
 os:W'.os=W.os
 tape:W'.tape=W.tape
 output:W'.output=W.output
 size:W.heap.size<=W'.heap.size
 block:∀k,k<W.heap.size->Np n W k->W'.heap[k]?=W.heap[k]?
theorem Np.up{a b c}{d}(h:Np a d c)(e:a<=b):Np b d c:=h.imp (fun h=>Q0 h e) id
theorem N1.down{n a}{b c}(h:N1 a b c)(d:n<=a):N1 n b c:=⟨h.os,h.tape,h.output,h.size,fun k e f=>h.block k e (f.up d)⟩
theorem N1.refl(b)(a):N1 b a a:=⟨rfl,rfl,rfl,Ox _,fun _ _ _=>rfl⟩
theorem Np.fx{n a}{b c}(h:Np n b a)(i:a<b)(j:N1 n b c):Np n c a:=by rcases h with h|⟨d,e,f,h,g⟩;(·exact O4 h);·exact Pu ⟨d,e,f,(j.block a i (Pu ⟨d,e,f,h,g⟩)).trans h,g⟩
theorem N1.trans{b}{d e f}(h:N1 b d e)(a:N1 b e f):N1 b d f:=⟨a.os.trans h.os,a.tape.trans h.tape,a.output.trans h.output,Pm h.size a.size,fun g c i=>(a.block g (Q0 c h.size) (i.fx c h)).trans (h.block g c i)⟩
theorem N1.af{d}{b c:OB}(a:OE b.heap.size b c):N1 d b c:=⟨a.os,a.tape,a.output,a.size,fun k e _=>a.block k e⟩
theorem N1.cell{c}{a d}(h:N1 c a d){b}{v}(hc:a.cell? b=Z v)(e:Np c a b.block):d.cell? b=Z v:=(QU (w:=a) (h.block b.block (Pr a _ hc) e)).trans hc
theorem N1.set{n B k}{a}{e}{c}{v}(hb:bi a B e c)(f:uR c=OQ)(g:n<=B):N1 n a (a.setCell ⟨B,k,Y⟩ v):=by refine⟨rfl,rfl,rfl,by simp[World.setCell],fun i j b=>PF a ⟨B,k,Y⟩ v i ?_⟩;rintro rfl;rcases b with b|⟨l,m,o,h,d⟩;(·exact absurd b Oq);·have:=h.symm.trans hb;simp only[RZ,Obj.cells.injEq]at this;rw[this.2.1,f]at d;cases d
theorem N1.aB{f b}{c g}{k}{i}(hb:bi c b k i)(l:uR i=OQ)(o:f<=b)(a:c.grownBy g (Z b)):N1 f c g:=by refine⟨a.os,a.tape,a.output,a.size,fun m n d=>a.block m n ?_⟩;intro e;injection e with e;subst e;rcases d with d|⟨p,q,r,h,j⟩;(·exact absurd d Oq);·have:=h.symm.trans hb;simp only[RZ,Obj.cells.injEq]at this;rw[this.2.1,l]at j;cases j
theorem Kj{a}{b c}(h:OE a b c)(d):OE a b (c.drewN d):=h.trans ⟨rfl,rfl,rfl,Ox _,fun _ _=>rfl⟩
theorem MV{a}{c b}(h:OE a c b)(e:a<=b)(d):OE a c (b.alloc d):=h.alloc e d
def Nq(k:Nat)(d:OB)(l:OU)(m a:Nat)(e:List OU):Prop:=e.length=a*m/\∃f b,l=J f a b/\a<=b/\b<=QE/\∀g i,e[g]?=Z i->∃c j,f=Z ⟨c,j,Y⟩/\d.cell? ⟨c,j+g,Y⟩=Z i/\Np k d c
theorem Nq.fx{n}{a c}{d}{e f}{g}(h:Nq n a d e f g)(i:N1 n a c):Nq n c d e f g:=by obtain⟨hl,l,m,b,o,p,hc⟩:=h;exact⟨hl,l,m,b,o,p,fun q x r=>by obtain⟨s,t,b,j,k⟩:=hc q x r;exact⟨s,t,b,i.cell j k,k.fx (Pr a _ j) i⟩⟩
theorem Nq.below{b}{a c}{d}{e f}{g}(h:Nq b a d e f g)(i:OE a a c):Nq b c d e f g:=h.fx (.af i)
theorem Nq.nil(a)(b)(c):Nq a b (J Y 0 0) c 0 []:=⟨On,Y,0,rfl,Ox _,by unfold QE;omega,fun d x h=>by simp at h⟩
theorem Nq.len{b}{c}{d}{e a}{f}(h:Nq b c d e a f):a<=QE:=by obtain⟨_,_,_,_,g,i,_⟩:=h;exact Pm g i
theorem Nq.sl{e}{f}{d}{g b}{i}(h:Nq e f d g b i):∃c a,d=J c b a/\b<=a/\a<=QE:=by obtain⟨_,c,a,j,k,l,_⟩:=h;exact⟨c,a,j,k,l⟩
theorem Nq.at{j}{f}{k}{l g}{a}(h:Nq j f k l g a)(h0:a≠[]):∃b d c,k=J (Z ⟨b,d,Y⟩) g c/\g<=c/\c<=QE/\Np j f b/\∀e x,a[e]?=Z x->f.q b (d+e) x:=by obtain⟨_,v,c,m,n,o,hc⟩:=h;cases a with|nil=>exact absurd rfl h0|cons p a=>obtain⟨b,d,rfl,_,q⟩:=hc 0 p rfl;refine⟨b,d,c,m,n,o,q,fun e x r=>?_⟩;obtain⟨w,y,i,s,_⟩:=hc e x r;injection i with i;injection i with t u;rw[t,u];exact s
theorem fU{n base}{d}{f}{g}{a e}{b}(h:d.ownsRow base g a f e b)(l:uR g=OD)(hl:b.length=e*a):Nq n d f a e b:=by rcases h.2 with⟨rfl,h0⟩|⟨i,m,j,rfl,_,k,o,p,_,q⟩;(·subst h0;have:b=[]:=QH.1 (by rw[hl];omega);subst this;exact Nq.nil n d a);·refine⟨hl,Z ⟨i,0,Y⟩,m,rfl,o,p,fun r x c=>⟨i,0,rfl,?_,Pu ⟨j,_,_,k,l⟩⟩⟩;rw[<-q,QB]at c;(have hc:j[r]?=Z x:=by split at c;(·simpa using c);·cases c);simp[RI,k,hc]
theorem Nq.ah{n a}{c}{d}{k len}{b}(h:bi c a b.toArray d)(e:uR d=OD)(hl:b.length=len*k)(f:len<=QE):Nq n c (J (Z ⟨a,0,Y⟩) len len) k len b:=⟨hl,_,_,rfl,Ox _,f,fun i x g=>⟨a,0,rfl,by rw[Ry];exact h.cell (by simp[g]),Pu ⟨_,_,_,h,e⟩⟩⟩
def eh(a:List Int):List OU:=a.map fun x=>U D x
theorem ku(a):(eh a).length=a.length:=by simp[eh]
theorem gJ(a:List Int)(b:Nat):(eh a)[b]?=(a[b]?).map fun x=>U D x:=by simp[eh]
def NA(b:Nat)(c:OB)(d:OU)(a:List Int):Prop:=Nq b c d 1 a.length (eh a)
theorem NA.fx{n}{a b}{c}{d}(h:NA n a c d)(e:N1 n a b):NA n b c d:=Nq.fx h e
theorem NA.below{b}{a c}{d}{e}(h:NA b a d e)(f:OE a a c):NA b c d e:=Nq.below h f
theorem Kz{n base}{b}{c}{a}(h:b.ownsRow base 3 1 c a.length (eh a)):NA n b c a:=fU h Om (by simp[eh])
def f3(a:List Nat):List OU:=a.map fun x:Nat=>U Pq (x:Int)
theorem z7(a)(b:Nat):(f3 a)[b]?=(a[b]?).map fun x:Nat=>U Pq (x:Int):=by simp[f3]
def Nk(b:Nat)(c:OB)(d:OU)(a:List Nat):Prop:=Nq b c d 1 a.length (f3 a)/\∀e∈a,e<4294967296
theorem Nk.fx{n}{a b}{c}{d}(h:Nk n a c d)(e:N1 n a b):Nk n b c d:=⟨h.1.fx e,h.2⟩
end
section
open Go.RowKit
theorem d4{a b:OB}(h:OE a.heap.size a b):a.grownBy b Y:=⟨h.os,h.tape,h.output,h.size,fun k c _=>h.block k c⟩
theorem iO{d}{f:Nat}{b:d->OB->Prop}(h:Tm f b){s:d}{a c}(g:b s a)(i:OE a a c):b s c:=h s a c Y g (d4 i) (fun r e=>by cases e)
theorem ev{β}(b)(c:OB)(d:Nat)(g:b<=d)(i:b<=c.heap.size):Tm (β:=β) d (fun _ W=>OE b c W):=fun s W j row f a hr=>f.trans ⟨a.os,a.tape,a.output,a.size,fun k l=>a.block k (by have:=f.size;omega) (fun e=>by have:=(hr k e.symm).1;omega)⟩
theorem dP(b:OB)(a:Nat)(c)(h:a<b):(b.putObj a c).heap[a]?=Z c:=by simp[Wg,h]
theorem dn(a:OB)(b:Nat)(c:Obj):(a.putObj b c).heap.size=a:=by simp[Wg]
def nR(f:Nat)(l:Nat)(m:Array OU)(g:List (Array OU))(n:OB->Prop):Prop:=∀(i:Nat)(d:Nat->OB->Prop)(j:OB->Prop)(a:OB),(∀b a,d b a->n a)->(∀b a c,d b a->OE a.heap.size a c->d b c)->(∀b k a,g[b]?=Z k->d b a->YieldAt Qs (f-1) Ot i k a fun e c=>(e=Ov (QK OQ)/\d (b+1) c)\/(e=Ov (QK OD)/\j c))->d 0 a->CallsIn Qs f Ot l (#[Pt (.yield i) #[] #[]]++m) a fun e c=>(∃o,e=Ov o)/\(d g.length c\/j c)
def JY(b:Nat)(d:Nat->OB->Prop)(e:Nat->OB->Prop)(f:Nat)(c:OB):Exit->Act->OB->Prop|.normal,_,a=>SE b c a/\d (f+1) a|.exit id,_,a=>SE b c a/\e id a|_,_,_=>False
def Le(b:Nat)(body:Code)(j f d:Nat)(e:Nat->OB->Prop)(k:Nat->OB->Prop)(l:OB)(m:Act)(c:OB):Prop:=SE b l c/\e d c/\∀a,(∀b g i,bi c b g i->bi a b g i)->a.heap.size=c.heap.size->e d a->(∃n,a.heap[f]?=Z (PO n))->body.wpIn (Qs.inRound f) j Ot (JY b e k d a) m a
theorem ek{o:Nat}{L:Operand}{ps:Array Tmp}{assign body:Code}{C:Exit->Act->OB->Prop}{j:Act}{a:OB}(T:1<=o){gf:Nat}{lb:Array OU}{t:List (Array OU)}{M:OB->Prop}(V:j.eval L=Pt (.func gf) #[] lb)(W:∀N a,(callFunc gf N).run Ot a=.ok (.enter gf N) a)(X:nR (o-1) gf lb t M)(i:Nat->OB->Prop)(u:Nat->OB->Prop)(p:Tm a.heap.size i)(O:Tm a.heap.size u)(aa:∀e c,i e c->M c)(ab:∀l∈t,l.size=ps.size)(h0:i 0 a)(ac:∀w e l c,a.heap.size<=w->(∃d,c.heap[w]?=Z (PO d))->t[e]?=Z l->i e c->assign.wpIn (Qs.inRound w) (o-1-1) Ot (Exit.then (Le a.heap.size body (o-1-1) w e i u c) (fun _ _ _=>False)) {tmps:=(ps.zip l).foldl (fun x(ad,v)=>x.setIfInBounds ad v) j.tmps,defers:=[]} c)(ae:∀m c,a.heap.size<=m->i t.length c->c.heap[m]?=Z (Ps (Z []))->C .normal {j with defers:={target:=.collected m,args:=#[]}::j.defers} c)(af:∀m f c,a.heap.size<=m->u f c->c.heap[m]?=Z (Ps (Z []))->(Code.exit f).wpIn Qs o Ot C {j with defers:={target:=.collected m,args:=#[]}::j.defers} c):(Code.rangeFunc L ps assign body).wpIn Qs o Ot C j a:=by refine d0 T V W fun fn d hr=>?_;have g:∀st pe,(PO (d st pe)).isCells=OD:=fun _ _=>rfl;have ag:OE a.heap.size a ((a.alloc (Ps (Z []))).alloc (PO (d .ready Y))):=((Ow _ a).alloc (Ox _) _).alloc On _;have ah:i 0 ((a.alloc (Ps (Z []))).alloc (PO (d .ready Y))):=iO p h0 ag;(have hL:((a.alloc (Ps (Z []))).alloc (PO (d .ready Y))).heap[a.heap.size+1]?=Z (PO (d .ready Y)):=by have:=QG (a.alloc (Ps (Z []))) (PO (d .ready Y));rwa[O1]at this);have hD:((a.alloc (Ps (Z []))).alloc (PO (d .ready Y))).heap[a.heap.size]?=Z (Ps (Z [])):=(QW _ _ _ On).trans (QG a _);refine(X (a.heap.size+1) (fun e c=>c.heap[a.heap.size+1]?=Z (PO (d .ready Y))/\c.heap[a.heap.size]?=Z (Ps (Z []))/\i e c) (fun c=>∃f,c.heap[a.heap.size+1]?=Z (PO (d .done (Z (.exit f))))/\c.heap[a.heap.size]?=Z (Ps (Z []))/\u f c) _ (fun e c h=>aa e c h.2.2) (fun e c W' h b=>⟨(b.block _ (OF.1 h.1).1).trans h.1,(b.block _ (OF.1 h.2.1).1).trans h.2.1,iO p h.2.2 b⟩) ?_ ⟨hL,hD,ah⟩).mono ?_;(·rintro e l c P⟨hl,q,r⟩;refine ee hr hl (ab l (ON P)) (TN (ac (a.heap.size+1) e l c Oq ⟨_,hl⟩ P r) ?_);intro y a1 E h;cases y with|normal=>obtain⟨Q,ai,hB⟩:=h;have z:=Q.same _ _ Oq hl (g _ _);have aj:=Q.same _ _ Oq q rfl;have ak:=(OF.1 z).1;have F:=dP E (a.heap.size+1) (PO (d .busy Y)) ak;have R:(E.putObj (a.heap.size+1) (PO (d .busy Y))).heap[a.heap.size]?=Z (Ps (Z [])):=(Pn Oq).trans aj;refine⟨z,TN (hB (E.putObj (a.heap.size+1) (PO (d .busy Y))) (fun B cs x hb=>cm _ hb z (g _ _)) (dn _ _ _) (p.putObj _ ai Oq z (g _ _)) ⟨_,F⟩) ?_⟩;intro y a2 W3 k;(cases y with|normal=>obtain⟨s,H⟩:=k;have n:=s.same _ _ Oq F (g _ _);have I:=s.same _ _ Oq R rfl;have K:=(OF.1 n).1;exact⟨n,O4 ⟨rfl,dP _ _ _ K,(Pn Oq).trans I,p.putObj _ H Oq n (g _ _)⟩⟩|exit f=>obtain⟨s,H⟩:=k;have n:=s.same _ _ Oq F (g _ _);have I:=s.same _ _ Oq R rfl;have K:=(OF.1 n).1;exact⟨n,Pu ⟨rfl,f,dP _ _ _ K,(Pn Oq).trans I,O.putObj _ H Oq n (g _ _)⟩⟩|goto x=>exact k.elim|ret=>exact k.elim|panic ch=>exact k.elim|outgrown=>exact k.elim)|exit f=>exact h|goto x=>exact h|ret=>exact h|panic ch=>exact h|outgrown=>exact h);·rintro y c⟨S,⟨hl,q,r⟩|⟨f,hl,q,r⟩⟩;(·refine⟨S,.ready,Y,On,hl,fun rr=>ae a.heap.size _ (Ox _) (p.putObj _ r Oq hl (g _ _)) ((Pn Oq).trans q)⟩);·refine⟨S,.done,Z (.exit f),On,hl,fun rr=>af a.heap.size f _ (Ox _) (O.putObj _ r Oq hl (g _ _)) ((Pn Oq).trans q)⟩
end
namespace Tr
structure bP where
 size:Nat
 ae:List Nat
 elem:Nat
 ad:List Nat deriving DecidableEq
def im(c:Nat)(a:List Nat):Prop:=a.Pairwise (·<·)/\∀b∈a,b<c/\b%4=0
structure dk(d:bP):Prop where
 s1:d.size<=1024
 s2:d.size%4=0
 e1:d.elem<=256
 e2:d.elem%4=0
 p:im d.size d.ae
 q:im d.elem d.ad
def cL(a:bP):Nat:=if a.elem=0 then 0 else(131064-a.size)/a.elem
def dm(a:bP)(b:Nat):Nat:=a.size+b*a.elem
def cJ(a:bP)(b:Nat):Nat:=(8+dm a b+7)/8*8
def ct(a:bP)(b:Nat):List Nat:=a.ae++(Qj b).flatMap fun c=>a.ad.map fun d=>a.size+c*a.elem+d
theorem eU{a}{b}(h:dk a)(c:b<=cL a):dm a b<=131064/\b<=40000:=by have f:=h.s1;unfold cL at c;unfold dm;split at c;(·rename_i d;rw[d];omega);·rename_i d;(have e:4<=a.elem:=by have:=h.e2;omega);have g:b*a.elem<=131064-a.size:=Pm (To _ c) (Nat.div_mul_le_self _ _);have:b*4<=b*a.elem:=SX _ e;omega
theorem ga{a}{b}(h:dk a)(c:b<=cL a):cJ a b<=131072/\8<=cJ a b/\cJ a b%8=0/\8+dm a b<=cJ a b:=by have:=(eU h c).1;unfold cJ;omega
theorem nw{b}{d}(h:dk b){c}(a:c∈ct b d):c+4<=dm b d/\c%4=0:=by have l:=h.s2;have f:=h.e2;unfold dm;rcases PU.1 a with a|a;(·have:=h.p.2 c a;omega);·obtain⟨e,g,a⟩:=T6.1 a;obtain⟨i,j,rfl⟩:=Pf.1 a;have m:=h.q.2 i j;have k:(e+1)*b.elem<=d*b.elem:=To _ (Qg.1 g);rw[Nat.add_mul,Nat.one_mul]at k;(have n:e*b.elem%4=0:=by rw[Nat.mul_mod,f];simp);omega
def dB(b:bP)(c:Nat)(a:Int):Int:=if a<0\/(dm b c:Int)<=a\/a%4≠0 then 0 else if a.toNat∈ct b c then 2 else 1
theorem tA{b}{n c}(h:c<b.size):c∈ct b n↔c∈b.ae:=by unfold ct;rw[PU];refine⟨fun a=>a.resolve_right fun a=>?_,O4⟩;obtain⟨d,_,a⟩:=T6.1 a;obtain⟨e,_,a⟩:=Pf.1 a;omega
theorem qr{a}{n b}(h:dk a)(k:a.size<=b)(f:b<dm a n):b∈ct a n↔(b-a.size)%a.elem∈a.ad:=by unfold dm at f;(have i:0<a.elem:=by rcases S8 a.elem with d|d;(·rw[d]at f;omega);·exact d);unfold ct;rw[PU];constructor;(·rintro(c|c);(·have:=h.p.2 b c;omega);·obtain⟨j,_,c⟩:=T6.1 c;obtain⟨e,g,c⟩:=Pf.1 c;(have:(b-a.size)%a.elem=e:=by rw[show b-a.size=e+j*a.elem by omega,Nat.add_mul_mod_self_right,RG (h.q.2 e g).1]);rw[this];exact g);·intro c;refine Pu (T6.2 ⟨(b-a.size)/a.elem,Qg.2 ((Nat.div_lt_iff_lt_mul i).2 Oq),Pf.2 ⟨_,c,?_⟩⟩);have:=Nat.div_add_mod (b-a.size) a.elem;rw[Nat.mul_comm]at this;omega
structure b6 where
 at_:Nat
 kd:Nat
 ln:Nat
 ep:Nat
def bO(a:List bP)(b:b6):bP:=a.getD (b.kd-1) ⟨0,[],0,[]⟩
def bv(b:List bP)(a:b6):Nat:=cJ (bO b a) a.ln
def cC(b:List bP)(a:b6):cF:=(a.at_,a.at_+bv b a)
def b9(a:Nat):Nat:=if a<=128 then 1 else if a<=2048 then 2 else 3
def fm(b:List bP)(a:b6):List UInt8:=kZ a.kd a.ln (b9 (bv b a)) a.ep
structure dd(K:List bP)(nb:Nat)(L:List b6)(bs:List UInt8):Prop where
 n1:1<=nb
 n2:nb<=32
 len:bs.length=4096*nb
 kl:K.length<=60
 kr:∀d∈K,dk d
 ai:eV (L.map (cC K)) (4096*nb)
 kd:∀o∈L,1<=o.kd/\o.kd<=K.length/\o.ln<=cL (bO K o)/\o.ep<=255
 hd:∀o∈L,(bs.drop o.at_).take 8=fm K o
theorem k8(a)(b):(fm a b).length=8:=sA ..
theorem dd.dr{b}{d}{c}{e}(h:dd b d c e){a}(f:a∈c):dk (bO b a):=by obtain⟨g,i,_⟩:=h.kd a f;refine h.kr _ ?_;unfold bO;rw[OL,Oz Oq];exact QQ _
theorem dd.sz{b}{d}{e}{f}(h:dd b d e f){a}(c:a∈e):8<=bv b a/\bv b a%8=0/\bv b a<=131072/\8+dm (bO b a) a.ln<=bv b a/\a.at_%8=0/\a.at_+bv b a<=4096*d:=by have i:=ga (h.dr c) (h.kd a c).2.2.1;have g:=h.ai.one (cC b a) (Pf.2 ⟨a,c,rfl⟩);simp only[cC]at g;unfold bv at*;omega
theorem yy{a}{k}(h:eV a k){b c:cF}(d:b∈a)(l:c∈a):b=c\/b.2<=c.1\/c.2<=b.1:=by have m:=h.pw;clear h;induction a with|nil=>cases d|cons p a n=>
 obtain⟨e,o⟩:=Rp.1 m;rcases Pc.1 d with f|g<;>rcases Pc.1 l with i|j;·exact O4 (f.trans i.symm)
 ·subst f;exact Pu (O4 (e _ j))
 ·subst i;exact Pu (Pu (e _ g))
 ·exact n g j o
theorem dd.apart{d}{f}{e}{g}(h:dd d f e g){a b}(i:a∈e)(j:b∈e)(k:b.at_≠a.at_):a.at_+bv d a<=b.at_\/b.at_+bv d b<=a.at_:=by rcases yy h.ai (Pf.2 ⟨a,i,rfl⟩) (Pf.2 ⟨b,j,rfl⟩)with c|c|c;(·exact absurd (Pl Prod.fst c).symm k);(·exact O4 c);·exact Pu c
theorem dd.inj{e}{f}{c}{g}(h:dd e f c g):c.Pairwise fun a b=>a.at_<b.at_:=by have d:=h.ai.pw;rw[UN]at d;exact d.imp_of_mem fun i hb j=>by have:=h.sz i;simp only[cC]at j;omega
theorem lV{c:List b6}(h:c.Pairwise fun a b=>a.at_<b.at_){d e:b6}(f:d∈c)(m:e∈c)(p:e.at_=d.at_):e=d:=by induction c with|nil=>cases f|cons q c n=>
 obtain⟨g,o⟩:=Rp.1 h;rcases Pc.1 f with i|j<;>rcases Pc.1 m with k|l;·exact k.trans i.symm
 ·subst i;have:=g _ l;omega
 ·subst k;have:=g _ j;omega
 ·exact n o j l
theorem jl(c)(a)(d)(h:a+d.length<=c.length)(b)(e:b<a\/a+d.length<=b):(gz c a d).getD b 0=c.getD b 0:=by rw[OL,OL,km c a d h b,O3 Oq]
theorem jk(b)(a)(c)(h:a+c.length<=b.length)(d e)(f:d+e<=a\/a+c.length<=d):((gz b a c).drop d).take e=(b.drop d).take e:=by refine Sm fun g=>?_;rw[QB,QB];split;(·rw[RB,RB,km b a c h,O3 Oq]);·rfl
theorem py(c)(b)(a)(h:b+a.length<=c.length):((gz c b a).drop b).take a.length=a:=by refine Sm fun d=>?_;rw[QB];split;(·rw[RB,km c b a h,Pa Oq];congr 1;omega);·rw[Qh Oq]
theorem yw(c)(a)(d)(h:a+d.length<=c.length)(b)(e:b+4<=a\/a+d.length<=b):eL (gz c a d) b=eL c b:=by unfold eL;rw[jl c a d h b Oq,jl c a d h (b+1) Oq,jl c a d h (b+2) Oq,jl c a d h (b+3) Oq]
theorem dd.write{e}{i}{f}{c}(h:dd e i f c){a}(j:a∈f)(b)(d)(m:a.at_+8<=b)(n:b+d.length<=a.at_+bv e a):dd e i f (gz c b d):=by have o:=h.sz j;have hl:=h.len;have k:b+d.length<=c.length:=Oq;refine⟨h.n1,h.n2,by rw[hh _ _ _ k];exact hl,h.kl,h.kr,h.ai,h.kd,fun x g=>?_⟩;rw[jk c b d k,h.hd x g];by_cases l:x.at_=a.at_;(·omega);·have:=h.apart j g l;have:=h.sz g;omega
def fX(a:List b6)(b c:Nat):List b6:=a.map fun x=>if x.at_=b then{x with ep:=c}else x
theorem yx(a)(b)(c d):(fX b c d).map (cC a)=b.map (cC a):=by unfold fX;rw[Vm];refine SY fun x _=>?_;simp only[Function.comp];split<;>rfl
theorem dd.bf{e}{n}{g}{i}(h:dd e n g i){b}(k:b∈g)(c)(p:c<=255):dd e n (fX g b.at_ c) (gz i b.at_ (fm e {b with ep:=c})):=by have r:=h.sz k;have hl:=h.len;have q:=k8 e {b with ep:=c};have l:b.at_+(fm e {b with ep:=c}).length<=i.length:=Oq;(have o:∀f∈fX g b.at_ c,∃a∈g,f=if a.at_=b.at_ then{a with ep:=c}else a:=fun f j=>by obtain⟨a,d,rfl⟩:=Pf.1 j;exact⟨a,d,rfl⟩);refine⟨h.n1,h.n2,by rw[hh _ _ _ l];exact hl,h.kl,h.kr,by rw[yx];exact h.ai,fun f j=>?_,fun f j=>?_⟩;(·obtain⟨a,d,rfl⟩:=o f j;have:=h.kd a d;split;(·exact⟨this.1,this.2.1,this.2.2.1,p⟩);·exact this);·obtain⟨a,d,rfl⟩:=o f j;split;(·rename_i m;obtain rfl:=lV h.inj k d m;have:=py i a.at_ (fm e {a with ep:=c}) l;rw[q]at this;exact this);·rename_i m;rw[jk i _ _ l,h.hd a d];have:=h.apart k d m;have:=h.sz d;omega
theorem dd.drop{d}{f}{g i}{j}(h:dd d f g j)(a:i.Sublist g):dd d f i j:=⟨h.n1,h.n2,h.len,h.kl,h.kr,⟨fun e k=>h.ai.one e ((a.map _).subset k),h.ai.pw.sublist (a.map _)⟩,fun b c=>h.kd b (a.subset c),fun b c=>h.hd b (a.subset c)⟩
theorem rD(b)(c){a}(h:1<=a.kd)(d:a.kd<=b.length):bO (b++[c]) a=bO b a:=by unfold bO;rw[OL,OL,QJ Oq]
theorem dd.kind{c}{i}{d}{j}(h:dd c i d j)(e)(k:dk e)(l:c.length<60):dd (c++[e]) i d j:=by have g:∀a∈d,bO (c++[e]) a=bO c a:=fun a b=>rD c e (h.kd a b).1 (h.kd a b).2.1;refine⟨h.n1,h.n2,h.len,Ol,fun x f=>?_,by rw[(show d.map (cC (c++[e]))=d.map (cC c)from SY fun a b=>by simp only[cC,bv,g a b])];exact h.ai,fun a b=>?_,fun a b=>?_⟩;(·rcases PU.1 f with f|f;(·exact h.kr x f);·rw[OH.1 f];exact k);(·have:=h.kd a b;rw[g a b,PV];exact⟨this.1,Oq,this.2.2⟩);·rw[h.hd a b];simp only[fm,bv,g a b]
def eG(a:b6):List b6->List b6|[]=>[a]|x::L=>if a.at_<x.at_ then a::x::L else x::eG a L
theorem dG(c)(a)(b):b∈eG c a↔b=c\/b∈a:=by induction a with|nil=>simp[eG]|cons e a d=>unfold eG;split;(·simp);·rw[Pc,d,Pc];constructor;(·rintro(h|h|h);(·exact Pu (O4 h));(·exact O4 h);·exact Pu (Pu h));·rintro(h|h|h);(·exact Pu (O4 h));(·exact O4 h);·exact Pu (Pu h)
theorem wq{d}{i}{c}{f}(h:eV (f.map (cC d)) i)(l:(cC d c).1<(cC d c).2/\(cC d c).2<=i/\(cC d c).1%8=0/\(cC d c).2%8=0)(m:∀a∈f,a.at_+bv d a<=c.at_\/c.at_+bv d c<=a.at_):eV ((eG c f).map (cC d)) i:=by refine⟨fun e o=>?_,?_⟩;(·obtain⟨a,b,rfl⟩:=Pf.1 o;rcases(dG c f a).1 b with rfl|b;(·exact l);·exact h.one _ (Pf.2 ⟨a,b,rfl⟩));·have n:∀a∈f,(cC d a).1<(cC d a).2:=fun a b=>(h.one _ (Pf.2 ⟨a,b,rfl⟩)).1;have j:=h.pw;clear h;rw[UN]at j⊢;induction f with|nil=>simp[eG]|cons g f p=>obtain⟨k,q⟩:=Rp.1 j;have t:=m g (PQ ..);have r:=n g (PQ ..);have s:=l.1;simp only[cC]at r s k⊢;unfold eG;split;(·refine Rp.2 ⟨fun a b=>?_,j⟩;rcases Pc.1 b with rfl|b;(·show c.at_+bv d c<=a.at_;omega);·have:=k a b;show c.at_+bv d c<=a.at_;omega);·refine Rp.2 ⟨fun a b=>?_,p (fun a b=>m a (P3 _ b)) (fun a b=>n a (P3 _ b)) q⟩;rcases(dG c f a).1 b with rfl|b;(·show g.at_+bv d g<=a.at_;omega);·exact k a b
theorem dd.add{b}{g}{f}{e}(h:dd b g f e)(a)(j:1<=a.kd/\a.kd<=b.length/\a.ln<=cL (bO b a)/\a.ep<=255)(q:a.at_%8=0)(r:a.at_+bv b a<=4096*g)(k:∀c∈f,c.at_+bv b c<=a.at_\/a.at_+bv b a<=c.at_):dd b g (eG a f) (gz (gz e a.at_ (PY (bv b a) 0)) a.at_ (fm b a)):=by
 have hl:=h.len;have n:dk (bO b a):=by refine h.kr _ ?_;unfold bO;rw[OL,Oz Oq];exact QQ _
 have l:=ga n j.2.2.1;have s:8<=bv b a/\bv b a%8=0:=⟨l.2.1,l.2.2.1⟩;have o:=k8 b a;have m:a.at_+(PY (bv b a) (0:UInt8)).length<=e.length:=by rw[T3];omega
 have p:(gz e a.at_ (PY (bv b a) 0)).length=e.length:=hh _ _ _ m;have i:a.at_+(fm b a).length<=(gz e a.at_ (PY (bv b a) 0)).length:=Oq;refine⟨h.n1,h.n2,by rw[hh _ _ _ i,p];exact hl,h.kl,h.kr,wq h.ai ?_ k,fun c d=>?_,fun c d=>?_⟩;·simp only[cC];omega
 ·rcases(dG a f c).1 d with rfl|d;(·exact j);·exact h.kd c d
 ·rcases(dG a f c).1 d with rfl|d;(·have:=py _ c.at_ (fm b c) i;rwa[o]at this);·have:=k c d;have:=h.sz d;rw[jk _ _ _ i _ _ Oq,jk _ _ _ m _ _ (by rw[T3];omega),h.hd c d]
def a4(a:b6):Nat:=a.at_/8+1
def d7(a:List b6)(b:Nat):Option Nat:=a.findIdx? fun c=>a4 c==b
def bT(b:List bP)(c:List UInt8)(a:b6):List Nat:=(ct (bO b a) a.ln).map fun s=>eL c (a.at_+8+s)
def bY(a:List bP)(b:List b6)(c:List UInt8)(d:b6):List Nat:=(bT a c d).filter fun r=>(d7 b r).isSome
def gS(b:List bP)(a:List b6)(c:List UInt8):List (List Nat):=a.map fun d=>(bY b a c d).filterMap (d7 a)
def m2(a:List b6)(b:List Nat):List Nat:=b.filterMap (d7 a)
def d1(e:List bP)(c:List b6)(f:List UInt8)(g:List Nat)(i:b6):Prop:=∀b:Nat->Prop,(∀a∈c,a4 a∈g->b (a4 a))->(∀a∈c,∀d∈c,b (a4 a)->a4 d∈bT e f a->b (a4 d))->b (a4 i)
def l7(c:List b6):Prop:=c.Pairwise fun a b=>a4 a<a4 b
theorem dd.aG{b}{c}{a}{d}(h:dd b c a d):l7 a:=h.inj.imp_of_mem fun e hb f=>by have:=h.sz e;have:=h.sz hb;unfold a4;omega
theorem kc{a}{c b}(h:d7 a c=Z b):∃d,a[b]?=Z d/\a4 d=c:=by obtain⟨e,f,_⟩:=Wf.1 h;exact⟨a[b],Oz e,by simpa using f⟩
theorem f8{a}(e:l7 a){b}{c}(h:a[b]?=Z c):d7 a (a4 c)=Z b:=by obtain⟨d,rfl⟩:=OA.1 h;refine Wf.2 ⟨d,On,fun f g=>?_⟩;have:=Ql.1 e f b Oq d g;simp;omega
theorem kO{b}{c}:(d7 b c).isSome=OQ↔∃a∈b,a4 a=c:=by constructor;(·intro h;obtain⟨e,f⟩:=Option.isSome_iff_exists.1 h;obtain⟨a,g,i⟩:=kc f;exact⟨a,ON g,i⟩);·rintro⟨a,j,h⟩;cases d:d7 b c with|some e=>rfl|none=>rw[d7,UL]at d;have:=d a j;simp[h]at this
theorem l4{b}{a}{c}{d}{e}(h:a[d]?=Z e):(gS b a c).getD d []=(bY b a c e).filterMap (d7 a):=by rw[OL,gS,PM,h];rfl
theorem tJ(b)(a)(c):(gS b a c).length=a.length:=by simp[gS]
theorem wk{n}{d}{o}{p}(i:l7 d){t}{u}(v:d[t]?=Z u):fT (gS n d o) (m2 d p) t↔d1 n d o p u:=by constructor;(·intro h y f j;have:=h (fun c=>∃a,d[c]?=Z a/\y (a4 a)) (fun c e=>?_) (fun c w⟨a,b,q⟩k=>?_);(·obtain⟨a,b,q⟩:=this;rw[v]at b;cases b;exact q);(·obtain⟨r,hr,g⟩:=RA.1 e;obtain⟨a,b,rfl⟩:=kc g;exact⟨a,b,f a (ON b) hr⟩);·rw[l4 b]at k;obtain⟨r,hr,g⟩:=RA.1 k;obtain⟨l,m,rfl⟩:=kc g;exact⟨l,m,j a (ON b) l (ON m) q (QF.1 hr).1⟩);·intro h;have:=h (fun r=>∃c a,d[c]?=Z a/\a4 a=r/\fT (gS n d o) (m2 d p) c) (fun a b hr=>?_) (fun a b l m⟨c,B,e,g,s⟩z=>?_);(·obtain⟨c,a,e,g,s⟩:=this;have f:=f8 i e;have j:=f8 i v;rw[g,j]at f;rw[OC f];exact s);(·obtain⟨c,e⟩:=Qn b;exact⟨c,a,e,rfl,.root (RA.2 ⟨_,hr,f8 i e⟩)⟩);·obtain⟨w,k⟩:=Qn m;obtain⟨C,x⟩:=Qn b;have f:=f8 i e;have j:=f8 i x;rw[g,j]at f;have:=OC f;subst this;refine⟨w,l,k,rfl,s.next ?_⟩;rw[l4 x];exact RA.2 ⟨_,QF.2 ⟨z,kO.2 ⟨l,m,rfl⟩⟩,f8 i k⟩
open Classical in noncomputable def dw(b:List bP)(a:List b6)(c:List UInt8)(d:List Nat):List b6:=a.filter fun e=>decide (d1 b a c d e)
theorem jD{g:Type}(b:List g)(c)(e:g->Bool)(h:∀a d,b[a]?=Z d->c a=e d):((Qj b.length).filter c).filterMap (fun a=>b[a]?)=b.filter e:=by induction b generalizing c with|nil=>rfl|cons i b k=>have h0:=h 0 i rfl;have l:=k (fun a=>c (a+1)) (fun a d m=>h (a+1) d (by simpa using m));rw[OS,List.range_succ_eq_map,Q7,List.filter_map];(have j:List.filterMap (fun a=>(i::b)[a]?) (List.map Nat.succ (List.filter (c∘Nat.succ) (Qj b.length)))=b.filter e:=by rw[List.filterMap_map,<-l];rfl);split;(·rename_i f;rw[VV,Q7,<-h0,Pa f];simp only[Qp];rw[j]);·rename_i f;rw[Q7,<-h0,O3 f,j]
open Classical in theorem jC{b}{a}{c}{d}(f:l7 a):(bW (gS b a c) (m2 a d)).filterMap (fun e=>a[e]?)=dw b a c d:=by unfold bW dw;rw[tJ];exact jD a _ _ fun e i g=>by rw[QR,PD,PD];exact wk f g
theorem dD{c}{a}{d}{e}{b}:b∈dw c a d e↔b∈a/\d1 c a d e b:=by classical simp[dw]
theorem lX{c}{a}{d}{e}(h:∀b∈a,d1 c a d e b):dw c a d e=a:=by classical exact Uy.2 fun b f=>by simpa using h b f
def iB(a:Nat)(b:List b6):List b6:=b.map fun c=>{c with ep:=a}
theorem pJ(b)(a):a4 {a with ep:=b}=a4 a:=rfl
theorem tL(a)(b)(d)(c):bT a b {c with ep:=d}=bT a b c:=rfl
theorem lW{c}{d}{g o}{i}(j)(s:∀k∈d,bT c o k=bT c g k):∀k∈iB j (dw c d g i),d1 c (iB j (dw c d g i)) o i k:=by
 intro k t;obtain⟨F,v,rfl⟩:=Pf.1 t;obtain⟨H,w⟩:=dD.1 v;intro x y B;rw[pJ];refine(w (fun r=>(∀a∈d,a4 a=r->d1 c d g i a)/\x r) (fun a b hr=>⟨fun z l m=>?_,?_⟩) (fun a b z l⟨p,C⟩n=>⟨fun u I m=>?_,?_⟩)).2;·intro Oj e f;exact e z l (m▸hr)
 ·have:d1 c d g i a:=fun Oj e f=>e a b hr;exact y {a with ep:=j} (Pf.2 ⟨a,dD.2 ⟨b,this⟩,rfl⟩) hr
 ·intro Oj e f;rw[m];exact f a b z l (p a b rfl Oj e f) n
 ·have q:=p a b rfl;have E:d1 c d g i z:=fun Oj e f=>f a b z l (q Oj e f) n;refine B {a with ep:=j} (Pf.2 ⟨a,dD.2 ⟨b,q⟩,rfl⟩) {z with ep:=j} (Pf.2 ⟨z,dD.2 ⟨l,E⟩,rfl⟩) C ?_;rw[tL,pJ,s a b];exact n
theorem tE{d}{b}{e}{i f}{a c}(j:a∈b)(o:c∈b)(p:a4 a∈f)(q:a4 c∈bT d e a)(hr:∀k∈i,k∈f\/k=a4 c){l}(h:d1 d b e i l):d1 d b e f l:=by intro r m n;refine h r (fun y s t=>?_) n;rcases hr _ t with g|g;(·exact m y s g);·rw[g];exact n a j c o (m a j p) q
end Tr
section
open Go.RowKit Go.Lib Go.Shelf
attribute[local go_sem]Oper.semAt_some
theorem JK(b c a d:Int)(f:Int)(g:OB)(n:f/16777216=b)(hb:Ww .and Pq (f/65536) 255=c)(hc:Ww .and Pq (f/256) 255=a)(o:Ww .and Pq f 255=d)(p:0<=b)(i:b<256)(q:0<=c)(j:c<256)(r:0<=a)(c1:a<256)(s:0<=d)(k:d<256):OJ Ot 427 #[U Pq f] g fun e l=>(∃a:Nat,a<=255/\e=Ov (U D (a:Int)))/\∃nq,l=g.drewN nq:=by(have m:(UK.size:Int)=256:=by decide+kernel);have t:b<(UK.size:Int):=Oq;have u:c<(UK.size:Int):=Oq;have v:a<(UK.size:Int):=Oq;have w:d<(UK.size:Int):=Oq;clear m i j c1 k;go_in;go_wp2;go_quiet(fail);go_wp2;go_ret;refine⟨⟨((UK[b.toNat].toNat+UK[c.toNat].toNat+UK[a.toNat].toNat+UK[d.toNat].toNat)%256),Oq,?_⟩,nq,rfl⟩;push_cast;rfl
theorem yN(a:Nat)(b:a<4294967296):(Re 32 (a:Int)).toNat=a:=by rw[Q8,SF];exact RG Oq
theorem zR(a b:Nat)(c:a<4294967296)(hb:b<4294967296):Ww .and Pq (a:Int) (b:Int)=((a&&&b:Nat):Int):=by have d:a&&&b<2^32:=Nat.and_lt_two_pow a Oq;show Pq.wrap ((Re 32 (a:Int)&&&Re 32 (b:Int)).toNat:Int)=_;rw[BitVec.toNat_and,yN a c,yN b hb,Vh];omega
theorem x2(a:Nat)(h:a<4294967296):Ww .and Pq (a:Int) 255=((a%256:Nat):Int):=by rw[show(255:Int)=((255:Nat):Int)from rfl,zR a 255 h Oq];congr 1;exact Nat.and_two_pow_sub_one_eq_mod a 8
theorem Kr(a b:Nat)(h:a<4294967296):(Ww .and Pq ((a:Int)/2^b) 1==1)=a.testBit b:=by(have c:(a:Int)/2^b=((a/2^b:Nat):Int):=by push_cast;rfl);have hl:a/2^b<4294967296:=Nat.lt_of_le_of_lt (Nat.div_le_self _ _) h;rw[c,show(1:Int)=((1:Nat):Int)from rfl,zR _ _ hl Oq,Nat.and_one_is_mod,Nat.testBit_eq_decide_div_mod_eq,QR];simp only[SD,PD];omega
theorem DZ(a:Nat)(h:a<4294967296)(b:OB):OJ Ot 427 #[U Pq (a:Int)] b fun e c=>(∃d:Nat,d<=255/\e=Ov (U D (d:Int)))/\OE b.heap.size b c:=by have f:(a:Int)/65536=((a/65536:Nat):Int):=Oq;have g:(a:Int)/256=((a/256:Nat):Int):=Oq;refine(JK ((a/16777216:Nat):Int) ((a/65536%256:Nat):Int) ((a/256%256:Nat):Int) ((a%256:Nat):Int) a b Oq (by rw[f,x2 _ Oq]) (by rw[g,x2 _ Oq]) (x2 a h) Oq Oq Oq Oq Oq Oq Oq Oq).mono ?_;rintro j c⟨i,nq,rfl⟩;exact⟨i,(Ow _ b).trans ⟨rfl,rfl,rfl,Ox _,fun _ _=>rfl⟩⟩
theorem uP(a)(b):OJ Ot 242 #[OQ,b] a fun e c=>e=Ov PA/\a=c:=by go_in;go_wp2;go_ret;exact⟨rfl,rfl⟩
theorem rR(a b:Nat)(h:a<=100000)(d:(a+31)/32=b)(c):OJ Ot 243 #[(a:Int)] c fun e f=>e=Ov (b:Int)/\c=f:=by have i:(a:Int)<=100000:=Oq;have g:((a:Int)+32-1)/32=(b:Int):=Oq;have j:((a:Int)+31)/32=(b:Int):=Oq;clear d h;go_in;go_wp2;rw[g];go_ret;exact⟨rfl,rfl⟩
theorem vb(g i k j:Nat)(a b d c:Nat)(f)(m:(b:Int)/32=(d:Int))(n:(b:Int)%32=(c:Int))(o:d<j)(hl:(b:Int)<=20000)(hc:f.cell? ⟨g,i+d,Y⟩=Z (U Pq (a:Int)))(p:(a:Int)<4294967296)(q:(c:Int)<32):OJ Ot 295 #[J (Z ⟨g,i,Y⟩) j k,(b:Int)] f fun e l=>e=Ov (QK (a.testBit c))/\f=l:=by go_in;go_wp2;go_ret;exact⟨by rw[<-Kr a c Oq];rfl,rfl⟩
structure Oc(n:Nat)(w:OB)(v:OU)(nb:Nat)(ws:List Nat):Prop where
 wl:Nk n w v ws
 len:ws.length=16*nb
 n1:1<=nb
 n2:nb<=32
theorem Oc.fx{n}{a b}{c}{d}{e}(h:Oc n a c d e)(f:N1 n a b):Oc n b c d e:=⟨h.wl.fx f,h.len,h.n1,h.n2⟩
theorem Oc.below{b}{a c}{d}{e}{f}(h:Oc b a d e f)(g:OE a a c):Oc b c d e f:=h.fx (.af g)
theorem Oc.at{i}{f}{j}{g}{k}(h:Oc i f j g k):∃a c b,j=J (Z ⟨a,c,Y⟩) (16*g) b/\16*g<=b/\b<=QE/\Np i f a/\∀(d x:Nat),k[d]?=Z x->f.q a (c+d) (U Pq (x:Int)):=by have p:=h.n1;have hl:=h.len;obtain⟨a,c,b,e,l,m,n,hc⟩:=h.wl.1.at (fun e=>by have:=Pl List.length e;simp[f3]at this;rw[this]at hl;simp at hl;omega);rw[hl]at e l;exact⟨a,c,b,e,l,m,n,fun d x o=>hc d _ (by rw[z7,o];rfl)⟩
theorem IF(a b:Nat)(c:Int)(g:c=512*(a:Int))(i:b=16*a)(h:a<=32)(d):OJ Ot 243 #[c] d fun e f=>e=Ov (b:Int)/\d=f:=by have:=rR (512*a) b Oq Oq d;rwa[show((512*a:Nat):Int)=c by omega]at this
theorem iR(i)(b j d:Nat)(a:Int)(f:a=512*(d:Int))(g:b=16*d)(h:d<=32)(c):OJ Ot 294 #[O8 #[a,J i b j]] c fun e k=>e=Ov OQ/\OE c c k:=by have l:=G (fun c=>IF d b a f g h c);have m:decide (a<0)=OD:=Ol;have n:decide (20000<a)=OD:=Ol;have o:((b:Int)!=(b:Int))=OD:=On;have p:(0:Int)<=a:=Oq;have q:a%32=0:=Oq;have r:((0:Int)!=0)=OD:=rfl;clear f g h;go_in;go_wp2;go_quiet((go_at_call 243;exact Calls.quiet_of_same ((l.o _).mono fun _ _ h=>⟨h.1,h.2.symm⟩)));go_wp2;go_ret;exact⟨rfl,Kj (MV (Ow _ _) (Ox _) _) _⟩
theorem Ks(c d i f j l b n o:Nat)(g:Int)(q:g=512*(j:Int))(r:f=16*j)(h:j<=32)(a)(s:(b:Int)/32=(n:Int))(t:(b:Int)%32=(o:Int))(w:b<512*j)(hc:a.cell? ⟨c,d+n,Y⟩=Z (U Pq (l:Int)))(x:l<4294967296):OJ Ot 212 #[O8 #[g,J (Z ⟨c,d,Y⟩) f i],(b:Int)] a fun e k=>e=Ov (QK (l.testBit o))/\OE a a k:=by have y:=G (iR (Z ⟨c,d,Y⟩) f i j g q r h);have E:decide ((0:Int)<=(b:Int))=OQ:=On;have F:decide ((b:Int)<g)=OQ:=Ol;have z:=G (fun W(B:a.B W)=>vb c d i f l b n o W s t Oq Oq (ac hc B) Oq Oq);obtain⟨p,u,_⟩:=d5 a #[g,J (Z ⟨c,d,Y⟩) f i] 146;clear q r h s t w hc x;go_in;go_wp2_with fail;(with_reducible refine(y.o _).mono ?_);rintro C k⟨rfl,m⟩;have H:k.q a 0 g:=(p.aa m).cell rfl;have c1:k.q a 1 (J (Z ⟨c,d,Y⟩) f i):=(p.aa m).cell rfl;have v:=G (a0 u m);clear p u m;go_wp2_with fail;(with_reducible refine(z.o _ v.o).mono ?_);rintro C k⟨rfl,rfl⟩;go_wp2;go_ret;exact⟨rfl,v.o⟩
def iK(a b:Nat)(c:Bool):Nat:=if c=OQ then(U4 32 a|||U4 32 (2^b)).toNat else(U4 32 a&&&~~~U4 32 (2^b)).toNat
theorem r2(a b)(c):iK a b c<4294967296:=by unfold iK;split<;>exact BitVec.isLt _
theorem Dp(c a b)(d)(e:c<4294967296)(hl:b<32):(iK c a d).testBit b=if b=a then d else c.testBit b:=by unfold iK;cases d;(·simp only[Ta,Wk];rw[BitVec.testBit_toNat,BitVec.getLsbD_and,BitVec.getLsbD_not,Ui,Ui,Nat.testBit_two_pow];by_cases h:b=a;(·simp[h,show a<32 by omega]);·simp[h,hl,show¬a=b by omega]);·simp only[Ub];rw[BitVec.testBit_toNat,BitVec.getLsbD_or,Ui,Ui,Nat.testBit_two_pow];by_cases h:b=a;(·simp[h,show a<32 by omega]);·simp[h,hl,show¬a=b by omega]
theorem Gu(b a:Nat)(c:a<32):Ww .or Pq (b:Int) (2^a%4294967296)=((iK b a OQ:Nat):Int):=by have d:2^a<4294967296:=show 2^a<2^32 from Nat.pow_lt_pow_right Oq c;(have e:((2:Int)^a%4294967296)=((2^a:Nat):Int):=by(have:((2:Int)^a)=((2^a:Nat):Int):=by push_cast;rfl);rw[this];exact Int.emod_eq_of_lt (Int.natCast_nonneg _) (Int.ofNat_lt.2 d));rw[e];show Pq.wrap ((Re 32 (b:Int)|||Re 32 ((2^a:Nat):Int)).toNat:Int)=_;rw[Q8,Q8,Vh];have:=r2 b a OQ;simp only[iK,Ub]at this⊢;omega
theorem Gv(b a:Nat)(c:a<32):Ww .andNot Pq (b:Int) (2^a%4294967296)=((iK b a OD:Nat):Int):=by have d:2^a<4294967296:=show 2^a<2^32 from Nat.pow_lt_pow_right Oq c;(have e:((2:Int)^a%4294967296)=((2^a:Nat):Int):=by(have:((2:Int)^a)=((2^a:Nat):Int):=by push_cast;rfl);rw[this];exact Int.emod_eq_of_lt (Int.natCast_nonneg _) (Int.ofNat_lt.2 d));rw[e];show Pq.wrap ((Re 32 (b:Int)&&&~~~Re 32 ((2^a:Nat):Int)).toNat:Int)=_;rw[Q8,Q8,Vh];have:=r2 b a OD;simp only[iK,Ta,Wk]at this⊢;omega
theorem Ja(b k j f c a:Nat)(g:Int)(i)(d)(m:(c:Int)/32=(a:Int))(n:(c:Int)%32=g)(o:a<j)(hl:(c:Int)<=20000)(hc:d.cell? ⟨b,a,Y⟩=Z (U Pq (f:Int)))(p:d.frozen? ⟨b,a,Y⟩=OD):OJ Ot 379 #[J (Z ⟨b,0,Y⟩) j k,(c:Int),QK i] d fun e l=>e=Ov (OP #[])/\l=d.setCell ⟨b,a,Y⟩ (U Pq (if i=OQ then Ww .or Pq (f:Int) (2^g.toNat%4294967296)else Ww .andNot Pq (f:Int) (2^g.toNat%4294967296))):=by cases i;(·go_in;go_wp2;go_end0;exact⟨rfl,rfl⟩);·go_in;go_wp2;go_end0;exact⟨rfl,rfl⟩
theorem I9(b k g i c a j:Nat)(f:Bool)(d)(m:(c:Int)/32=(a:Int))(n:(c:Int)%32=(j:Int))(o:a<g)(hl:(c:Int)<=20000)(hc:d.cell? ⟨b,a,Y⟩=Z (U Pq (i:Int)))(p:d.frozen? ⟨b,a,Y⟩=OD):OJ Ot 379 #[J (Z ⟨b,0,Y⟩) g k,(c:Int),f] d fun e l=>e=Ov (OP #[])/\l=d.setCell ⟨b,a,Y⟩ (U Pq ((iK i j f:Nat):Int)):=by refine(Ja b k g i c a (j:Int) f d m n o hl hc p).mono ?_;rintro q l⟨rfl,rfl⟩;refine⟨rfl,?_⟩;rw[QY,Gu _ _ Oq,Gv _ _ Oq];cases f<;>rfl
end
section
open Go.RowKit Go.Lib Go.Shelf
def dx(a:OU)(b:Nat):Array OU:=(PY b a).toArray
theorem kj(b)(a):(dx b a).size=a:=by simp[dx]
theorem f6(a)(b):madeCells #[a] b=dx a b:=by refine Array.ext (by simp[madeCells,dx]) fun c d e=>?_;simp[madeCells,dx];have:c%1=0:=Nat.mod_one c;simp[this]
theorem LP(a:Nat)(c:a<=131072)(b):(TO 23 (a:Int) (a:Int)).run Ot b=.ok (J (Z ⟨b,0,Y⟩) a a) (b.alloc (A (dx () a) 3)):=by rw[<-f6];exact UY 23 3 () 8 Oo Oo rfl D D a Oq Oq b
theorem Mv(a:Nat)(c:a<=131072)(b):(TO 144 (a:Int) (a:Int)).run Ot b=.ok (J (Z ⟨b,0,Y⟩) a a) (b.alloc (A (dx (U Pq 0) a) 55)):=by rw[<-f6];exact UY 144 55 (U Pq 0) 4 Oo Oo rfl D D a Oq Oq b
theorem K5(a:Nat)(c:a<=131072)(b):(TO 75 (a:Int) (a:Int)).run Ot b=.ok (J (Z ⟨b,0,Y⟩) a a) (b.alloc (A (dx (J Y 0 0) a) 23)):=by rw[<-f6];exact UY 75 23 (J Y 0 0) 24 Oo Oo rfl D D a Oq Oq b
theorem zF{dT sT f}(k:Ot.underlying dT=Z (.slice f))(l:(Ot.info? f).map (·.size)=Z 1){c}(i){e}{d}{m}(n:bi c e d m){q a}(hc:d.size=a){o}{j}{b}(p:Nq q c (J o a j) 1 a b)(r:∀s∈b,s.oneCell'=OQ):(Builtin.copy_ #[dT,sT] i #[J (Z ⟨e,0,Y⟩) a a,J o a j]).run Ot c=.ok (goInt a) (c.setRow e b.toArray):=by(have hl:b.length=a:=by have:=p.1;omega);by_cases h0:a=0;(·subst h0;obtain rfl:=QH.1 hl;have:d=#[]:=Array.size_eq_zero_iff.1 hc;subst this;rw[run_copy_none c _ _ i f _ _ _ _ _ _ k l On];rw[show([]:List OU).toArray=#[]from rfl,WZ c e _ _ _ n];rfl);·obtain⟨t,u,B,g,_,_,_,w⟩:=p.at (by intro g;rw[g]at hl;simp at hl;omega);simp only[P8]at g;obtain⟨rfl,_,rfl⟩:=g;have:=run_copy_row (P:=Ot) c dT sT i f e 0 a a ⟨t,u,Y⟩ a j d m b k l n (by rw[hl];simp) (fun x v y=>by rw[VR];exact w x v y) Oq r;(have z:(d.toList.take 0++b++d.toList.drop (0+b.length)).toArray=b.toArray:=by rw[Rs,Pg,List.drop_of_length_le (by rw[Array.length_toList,hc];omega),RE]);rw[this,z,hl]
theorem gN{b}{a}{e}{c}(h:bi b a e c)(d):bi (b.setRow a d) a d c:=UP _ _ _ _ _ _ h
def N2(b:Nat)(c:OU):Prop:=∀a d e,c=J (Z a) d e->b<=a.block
theorem N2.mono{a j}{b}(h:N2 a b)(c:j<=a):N2 j b:=fun d len cap e=>Pm c (h d len cap e)
theorem EN(a c d f b)(h:b<=a):N2 b (J (Z ⟨a,c,Y⟩) d f):=fun g _ _ e=>by cases e;exact h
theorem Kb(a b c):N2 a (J Y b c):=fun d _ _ e=>by cases e
theorem Nq.grown{e}{c f}{d}{g i j}{k}(h:Nq e c d g i k)(n:c.grownBy f (Z j))(o:N2 (j+1) d):Nq e f d g i k:=by obtain⟨hl,p,q,a,r,s,hc⟩:=h;refine⟨hl,p,q,a,r,s,fun t x u=>?_⟩;obtain⟨l,v,w,m,b⟩:=hc t x u;subst w;have y:=o _ _ _ a;have z:=Pr c _ m;have hb:=n.block l z (by intro a;injection a with a;simp only at y;omega);refine⟨l,v,rfl,(QU (w:=c) hb).trans m,?_⟩;rcases b with b|⟨B,C,E,b,F⟩;(·exact O4 b);·exact Pu ⟨B,C,E,hb.trans b,F⟩
theorem Nq.setCell{c}{a}{b}{d e g}{f}(h:Nq c a b d e f)(k:N2 (g+1) b)(i)(j):Nq c (a.setCell ⟨g,i,Y⟩ j) b d e f:=h.grown (e4.setCell g i a j) k
def eQ:OU->List Nat|J (Z a) _ _=>[a.block]|_=>[]
theorem Nq.same{e}{c W'}{d}{f g}{i}(h:Nq e c d f g i)(k:∀a∈eQ d,W'.heap[a]?=c.heap[a]?):Nq e W' d f g i:=by obtain⟨hl,l,m,j,n,o,hc⟩:=h;refine⟨hl,l,m,j,n,o,fun p x q=>?_⟩;obtain⟨a,r,s,t,b⟩:=hc p x q;subst s;have hb:=k a (by rw[j];simp[eQ]);refine⟨a,r,rfl,(QU (w:=c) hb).trans t,?_⟩;rcases b with b|⟨u,v,w,b,y⟩;(·exact O4 b);·exact Pu ⟨u,v,w,hb.trans b,y⟩
theorem Am{a b:OB}(h:OE a.drew.heap.size a.drew b):OE a.heap.size a b:=⟨h.os,h.tape,h.output,h.size,h.block⟩
theorem HS{a:OB}{b:Addr}{c:OU}{d e:Nat}{f:OU}(g:b.block≠d)(h:a.cell? b=Z c):(a.setCell ⟨d,e,Y⟩ f).cell? b=Z c:=(QU (w:=a) (PF _ _ _ _ g)).trans h
theorem mN{a g}{c b}(hb:OE a c b)(e:a<=g)(d):OE a c (b.setRow g d):=hb.trans ⟨rfl,rfl,rfl,On,fun k f=>Vq b g k d Oq⟩
theorem BA(b):∀a∈eh b,a.oneCell'=OQ:=fun a c=>by obtain⟨d,_,rfl⟩:=Pf.1 c;rfl
theorem z6(b):∀a∈f3 b,a.oneCell'=OQ:=fun a c=>by obtain⟨d,_,rfl⟩:=Pf.1 c;rfl
theorem jg:(Ot.info? 3).map (·.size)=Z 1:=Oo
theorem sV:(Ot.info? 55).map (·.size)=Z 1:=Oo
theorem cz{a}{g b i j}{c d}{e}{k}{l}(h:a.ownsRow g c i e j k)(hb:bi a b l d)(m:d≠c):e.ownBlock≠Z b:=by rcases h.2 with⟨rfl,_⟩|⟨o,p,q,rfl,_,n,_⟩;(·simp[PL]);·intro f;simp[PL]at f;subst f;have:=n.symm.trans hb;simp at this;exact m this.2.symm
theorem dq{c:OB}{d f g}{i}{e:OU}{j:List OU}(h:c.ownsRow d i f e g j){a:Nat}(b:e.ownBlock=Z a):d<=a/\a<c:=by rcases h.2 with⟨rfl,_⟩|⟨l,m,n,rfl,hb,k,_⟩;(·simp[PL]at b);·simp[PL]at b;subst b;exact⟨hb,(OF.1 k).1⟩
theorem ef(a:OB)(b)(c:SG)(d:Nat):a.ownsRow b c d (J Y 0 0) 0 []:=⟨On,O4 ⟨rfl,rfl⟩⟩
def NG(b:OB)(c d:Nat)(e:List Nat)(f g:SG)(i j:Nat)(k:List OU):Prop:=∃a,bi b d #[a] f/\b.ownsRow c g i a j k/\∀l∈e,a.ownBlock≠Z l
theorem NG.kept{e l}{f c}{g}{m i}{n o}{p}(h:NG e f c g m i n o p){row}(q:e.grownBy l row)(r:∀a,row=Z a->a≠c/\(a∈g\/a<f\/∃j,e.heap[a]?=Z j/\∀v w,j≠A v i w)):NG l f c g m i n o p:=by obtain⟨s,hb,hr,t⟩:=h;refine⟨s,hb.grown q (fun k=>(r c k.symm).1 rfl),hr.kept q ?_,t⟩;cases b:s.ownBlock with|none=>exact O4 rfl|some a=>refine Pu fun k=>?_;rcases(r a k.symm).2 with d|d|⟨j,d,x⟩;(·exact t a d b);(·have:=(dq hr b).1;omega);·rcases hr.2 with⟨rfl,_⟩|⟨y,z,B,rfl,_,u,_⟩;(·simp[PL]at b);·simp[PL]at b;subst b;rw[d]at u;exact x _ _ (OC u)
theorem NG.below{b c}{d e}{f}{g a}{i j}{k}(h:NG b d e f g a i j k)(l:OE b b c):NG c d e f g a i j k:=h.kept (d4 l) (fun _ a=>by cases a)
theorem NG.ah{a e}{f b c}{g}{i d j}{l k}{m}{o}(h:NG a f b g i d l k m)(p:a.grownBy e (Z c))(hb:bi a c o j)(q:c≠b)(r:j≠d):NG e f b g i d l k m:=h.kept p fun t s=>by cases s;exact⟨q,Pu (Pu ⟨_,hb,fun u z n=>by simp at n;exact r n.2.1⟩)⟩
theorem pP{β}(base e)(f)(g i)(j)(k:β->Nat)(l:β->List OU)(m):Tm m (fun s W=>NG W base e f g i j (k s) (l s)):=fun s W q row b n hr=>b.kept n fun o p=>by obtain⟨_,c,d,hc⟩:=hr o p;refine⟨fun a=>?_,Pu (Pu ⟨c,d,fun r z a=>by subst a;cases hc⟩)⟩;subst a;obtain⟨t,hb,_⟩:=b;have:c=_:=OC (d.symm.trans hb);subst this;cases hc
theorem NG.put{c f}{i g}{O}{T e}{j r l}{s m}{d a}(hb:bi c g #[d] T)(hr:c.ownsRow i e j d r s)(n:T≠e)(t:∀b∈O,d.ownBlock≠Z b)(u:∀b∈O,b<c.heap.size)(v:c.grownBy f d.ownBlock)(o:f.ownsRow i e j a l m)(w:a.ownBlock=d.ownBlock\/a.ownBlock=Z c.heap.size):NG (f.setCell ⟨g,0,Y⟩ a) i g O T e j l m:=by have p:=hb.grown v (fun x=>cz hr hb n x.symm);refine⟨a,p.set 0 a,o.kept ?_ (Pu (cz o p n)),fun b q=>?_⟩;(·exact e4.setCell g 0 f a);·rcases w with k|k;(·rw[k];exact t b q);·rw[k];have:=u b q;intro y;injection y;omega
theorem e0{b c:OB}{box a}{d}{e v':OU}{f}(hb:bi b a f d)(g:b.grownBy c e.ownBlock)(i:e.ownBlock≠Z a)(j:a≠box):bi (c.setCell ⟨box,0,Y⟩ v') a f d:=(hb.grown g (fun k=>i k.symm)).other j 0 v'
theorem gm{a d i j}{e c f}{k}{g}{l}(h:OE a e c)(p:a<=d)(m:a<=c)(hr:c.ownsRow d k i g j l)(n:c.grownBy f g.ownBlock):OE a e f:=h.grown n m (fun b o=>by have:=(dq hr o).1;omega)
theorem hD{i j k l}{a d}{m}{e}{n}(hr:a.ownsRow i m j e k n)(f:a.grownBy d e.ownBlock):SE l a d:=by refine⟨f.size,fun o q _ b p=>(f.block o (OF.1 b).1 (fun c=>?_)).trans b⟩;rcases hr.2 with⟨rfl,_⟩|⟨r,s,t,rfl,_,g,_⟩;(·simp[PL]at c);·simp[PL]at c;subst c;rw[b]at g;cases OC g;cases p
theorem dQ{B}{a b:OB}(h:OE a.heap.size a b):SE B a b:=⟨h.size,fun d _ _ c _=>(h.block d (OF.1 c).1).trans c⟩
theorem cf{d:OB}{e}{f}{g b}{c}{i:List OU}(h:d.ownsRow e f g c b i):∃j a,c=J j b a/\b<=a/\a<=QE:=by rcases h.2 with⟨rfl,h0⟩|⟨m,a,n,rfl,_,_,k,l,_⟩;(·exact⟨Y,0,by rw[h0],Oq,by unfold QE;omega⟩);·exact⟨_,_,rfl,k,l⟩
theorem Nq.putObj{g c}{a}{i}{j k}{l}{m}(h:Nq g a i j k l)(p:a.heap[c]?=Z m)(q:m.isCells=OD)(n):Nq g (a.putObj c n) i j k l:=by obtain⟨hl,r,t,u,v,w,hc⟩:=h;refine⟨hl,r,t,u,v,w,fun y x z=>?_⟩;obtain⟨b,B,C,c2,s⟩:=hc y x z;(have E:b≠c:=by rintro rfl;(have:∃d e f,a.heap[b]?=Z (A d e f):=by unfold RI at c2;split at c2;(·exact⟨_,_,_,by assumption⟩);·cases c2);obtain⟨d,e,f,o⟩:=this;rw[p]at o;cases OC o;cases q);have hb:(a.putObj c n).heap[b]?=a.heap[b]?:=Pn E;refine⟨b,B,C,(QU (w:=a) hb).trans c2,?_⟩;rcases s with s|⟨d,e,f,s,F⟩;(·exact O4 s);·exact Pu ⟨d,e,f,hb.trans s,F⟩
theorem cE{a b}{c d}(h:OE a c d)(f:a<=b)(e):OE a c (d.putObj b e):=h.trans ⟨rfl,rfl,rfl,On,fun k g=>Pn Oq⟩
theorem Nq.cut{c}{d}{b}{e a i}{f}(h:Nq c d (J b a i) e a f):Nq c d (J b a a) e a f:=by obtain⟨hl,j,k,g,l,m,hc⟩:=h;simp only[P8]at g;obtain⟨rfl,_,rfl⟩:=g;exact⟨hl,b,a,rfl,Ox _,Oq,hc⟩
theorem N2.cut{b a f}{d}(h:N2 b (J d a f)):N2 b (J d a a):=fun q g c e=>by simp only[P8]at e;obtain⟨rfl,rfl,_⟩:=e;exact h q _ _ rfl
theorem Jw{c:OB}{a}{d}{e f}{b}{g:List OU}(h:c.ownsRow a d e b f g):N2 a b:=by rcases h.2 with⟨rfl,_⟩|⟨i,j,k,rfl,hb,_⟩;(·exact Kb _ _ _);·exact EN _ _ _ _ _ hb
end
section
open Go.RowKit Go.Lib Go.Shelf
attribute[local go_sem]Oper.semAt_some
theorem KN(b)(a)(c:bi a b #[PA,PA] 64):OJ Ot 241 #[J (Z ⟨b,0,Y⟩) 2 2] a fun e d=>e=Ov ()/\a=d:=by have f:a.q b 0 PA:=c.cell rfl;have c1:a.q b 1 PA:=c.cell rfl;clear c;go_in;go_wp2;refine PI 3 ?_;(repeat(rw[Pw];go_wp2));go_ret;exact⟨rfl,rfl⟩
theorem KO(b)(a)(c:bi a b #[PA] 64):OJ Ot 241 #[J (Z ⟨b,0,Y⟩) 1 1] a fun e d=>e=Ov ()/\a=d:=by have f:a.q b 0 PA:=c.cell rfl;clear c;go_in;go_wp2;refine PI 2 ?_;(repeat(rw[Pw];go_wp2));go_ret;exact⟨rfl,rfl⟩
theorem Jo(k l c m f g d b i:Nat)(j:Bool)(a:OB)(t:a.cell? ⟨k,0,Y⟩=Z (U D (d:Int)))(u:a.cell? ⟨l,0,Y⟩=Z (QK j))(n:(d:Int)/32=(b:Int))(o:(d:Int)%32=(i:Int))(p:b<f)(hl:(d:Int)<=20000)(hc:a.cell? ⟨c,b,Y⟩=Z (U Pq (g:Int)))(q:a.frozen? ⟨c,b,Y⟩=OD):OJ Ot 378 #[J (Z ⟨c,0,Y⟩) f m,k,l] a fun e r=>e=Ov (OP #[])/\r=a.setCell ⟨c,b,Y⟩ (U Pq ((iK g i j:Nat):Int)):=by have s:=G (I9 c m f g d b i j a n o p hl hc q);clear n o p hl hc q;go_in;go_wp2_with fail;(with_reducible refine(s.o).mono ?_);rintro v r⟨rfl,rfl⟩;go_wp2;go_end0;exact⟨rfl,rfl⟩
theorem z5(a)(b c:Nat):(f3 (a.set b c)).toArray=(f3 a).toArray.setIfInBounds b (U Pq (c:Int)):=by simp[f3,Wo]
theorem Oc.setCell{b}{c}{a}{d g}{e}(h:Oc b c a d e)(j:N2 (g+1) a)(f)(i):Oc b (c.setCell ⟨g,f,Y⟩ i) a d e:=⟨⟨h.wl.1.setCell j f i,h.wl.2⟩,h.len,h.n1,h.n2⟩
theorem xR(w)(x z aa p q r l t c g f:Nat)(i:Bool)(j:Int)(d)(a)(m:Oc w a (J (Z ⟨p,q,Y⟩) (16*l) r) l d)(B:a.q x 0 (t:Int))(C:a.q z 0 i)(E:a.q aa 0 (Pt (.func 378) #[] #[x,z]))(F:(t:Int)/32=(c:Int))(H:(t:Int)%32=(g:Int))(hi:c<16*l)(hx:d[c]?=Z f):OJ Ot 377 #[O8 #[U D j,J (Z ⟨p,q,Y⟩) (16*l) r],J (Z ⟨aa,0,Y⟩) 1 1] a fun e I=>∃K,e=Ov (O8 #[j,K])/\Oc w I K l (d.set c (iK f g i))/\N2 a K/\OE a a I:=by
 have aH:=m.n2;obtain⟨b,u⟩:∃b,b=16*l:=⟨_,rfl⟩;have L:d.length=b:=m.len.trans u.symm;rw[<-u]at m hi⊢;have ax:=Mv b Oq;obtain⟨bp,b0,M,n,ab⟩:=g7 a #[j,J (Z ⟨p,q,Y⟩) b r] #[(),J Y 0 0] (dx (U Pq 0) b) 146 146 55;have HM:=G u;have ay:=G L;have ad:Nq w a (J (Z ⟨p,q,Y⟩) b r) 1 b (f3 d):=L▸m.wl.1;have ae:=fun ty=>zF (sT:=144) (dT:=144) Oo sV ty M (kj _ _) (ad.below n) (z6 d);have af:=G ae;have az:=ac B n;have aA:=ac C n;have aB:=ac E n;have ag:=G n;have ah:=G M;have N:=G m;have ai:=G ab;have aj:=G bp;have aI:b<=512:=Oq;have ak:=G b0;clear ae ad n M b0 bp m u L ab;go_in;go_wp2_with refine Vv _ rfl _ _ 144 144 rfl _ _ rfl rfl (af.o _) ?_;have s:=gN ah.o (f3 d).toArray;have o:=mN ag.o (g:=a+1+1) Oq (f3 d).toArray;have O:=(e4.setRow (a+1+1) _ (f3 d).toArray).ah ak.o Oq;have P:=(e4.setRow (a+1+1) _ (f3 d).toArray).ah aj.o Oq;have Q:=ac B o;have R:=ac C o;have al:=ac E o;have v:=ai.o;rw[<-setRow_size _ (a+1+1) (f3 d).toArray]at v;clear az aA aB B C E ag ah ak aj af ai ax;generalize((((a.alloc (A #[U D j,J (Z ⟨p,q,Y⟩) b r] 146)).alloc (A #[U D 0,J Y 0 0] 146)).alloc (A (dx (U Pq 0) b) 55)).setRow (a.heap.size+1+1) (f3 d).toArray)=S at s o O P Q R al v⊢;have an:S.cell? ⟨a.heap.size+1+1,c,Y⟩=Z (U Pq (f:Int)):=s.cell (by simp[f3,hx]);have HT:=G (Jo x z (a.heap.size+1+1) b b f t c g i S Q R F H hi Oq an (s.frozen c));have ao:=G s;have aq:=G o;have aJ:=G v;have ar:=G O;have au:=G P;have HJ:=G F;have HK:=G H;clear s o v an Q R O P F H;refine PI 2 ?_;rw[Pw];go_wp2_with fail;with_reducible refine(HT.o).mono ?_
 rintro aK I⟨rfl,rfl⟩;have T:=ao.o.set c (U Pq ((iK f g i:Nat):Int));have V:=aq.o.setCell (p:=⟨a+1+1,c,Y⟩) Ol (U Pq ((iK f g i:Nat):Int));have k:=ar.o.other (B':=a+1+1) Oq c (U Pq ((iK f g i:Nat):Int));have W:=au.o.other (B':=a+1+1) Oq c (U Pq ((iK f g i:Nat):Int));clear ao aq ar au HT al;generalize S.setCell ⟨a+1+1,c,Y⟩ (U Pq ((iK f g i:Nat):Int))=X at T V k W⊢;have aC:=G T;have aD:=G V;have p0:X.q a 0 j:=W.cell rfl;have aE:=G k;have g0:X.q (a+1) 0 ():=k.cell rfl;have g1:X.q (a+1) 1 (J Y 0 0):=k.cell rfl;have f0:=k.frozen 0;have f1:=k.frozen 1;clear T V k W;go_wp2;rw[Pw];go_wp2;have aF:=(aE.o.set 0 j).set 1 (J (Z ⟨a+1+1,0,Y⟩) b b);refine OM (QD Tryz.results377 _ _ (a+1) 146 _ (0,0) _ rfl aF SU rfl Oo) rfl ?_;have av:=(aC.o.other (B':=a+1) Oq 0 (U D j)).other (B':=a+1) Oq 1 (J (Z ⟨a.heap.size+1+1,0,Y⟩) b b);have aG:=(aD.o.setCell (p:=⟨a+1,0,Y⟩) On (U D j)).setCell (p:=⟨a+1,1,Y⟩) On (J (Z ⟨a.heap.size+1+1,0,Y⟩) b b);rw[<-z5]at av;have hM:=HM.o;have aw:(d.set c (iK f g i)).length=b:=by rw[R6];exact ay.o
 refine⟨_,rfl,⟨⟨?_,?_⟩,Oq,N.o.n1,N.o.n2⟩,EN _ _ _ _ _ Oq,aG⟩;·rw[aw];exact Nq.ah av Om (by rw[f3,O7,aw];omega) (by unfold QE;omega)
 ·intro y hy;rcases List.mem_or_eq_of_mem_set hy with hy|rfl;(·exact N.o.wl.2 y hy);·exact r2 _ _ _
def Oe(a:OB):Prop:=∃b c d,a.cell? ⟨12,0,Y⟩=Z b/\a.cell? ⟨16,0,Y⟩=Z c/\a.cell? ⟨17,0,Y⟩=Z d
theorem Oe.below{a b}(h:Oe a)(hb:OE a a b):Oe b:=by obtain⟨c,d,e,f,g,i⟩:=h;exact⟨c,d,e,ac f hb,ac g hb,ac i hb⟩
theorem Ko(E)(V)(f b:Nat)(n:Bool)(g)(d:Int)(F:d=512*(f:Int))(a)(hG:Oe a)(r:Oc E a V f g)(W:b<512*f):OJ Ot 323 #[O8 #[d,V],(b:Int),n] a fun e i=>∃v,e=Ov (OP #[O8 #[d,v],()])/\Oc E i v f (g.set (b/32) (iK (g.getD (b/32) 0) (b%32) n))/\N2 a v/\OE a a i:=by
 obtain⟨va,vb,vc,_,X,eP⟩:=hG;obtain⟨j,k,l,rfl,h1,h2,_,hc⟩:=r.at;have ag:=r.n2;have h3:decide ((0:Int)<=(b:Int))=OQ:=On;have h4:decide ((b:Int)<d)=OQ:=Ol;have aa:b/32<g.length:=by have:=r.len;omega
 have hx:g[b/32]?=Z (g.getD (b/32) 0):=by rw[OL,Oz aa];rfl
 have HR:=G (iR (Z ⟨j,k,Y⟩) (16*f) l f d F rfl ag);have HX:=G hx;have HB:=G r;obtain⟨m,H⟩:∃m,m=16*f:=⟨_,rfl⟩;have HM:=G H;have HI:=G W;have HN:=G F;rw[<-H]at HR HB⊢;clear r h1 h2 hc hx F H aa W;obtain⟨s,w,I,K,t,L⟩:=c8 a #[d,J (Z ⟨j,k,Y⟩) m l] #[(b:Int)] #[n] #[(),J Y 0 0] 146 3 4 146;have M:=ac X t;have N:=ac eP t;go_in;go_wp2_with fail;generalize((((a.alloc (A #[d,J (Z ⟨j,k,Y⟩) m l] 146)).alloc (A #[(b:Int)] 3)).alloc (A #[n] 4)).alloc (A #[(),J Y 0 0] 146))=O at s w I K t L M N⊢;have x:O.q a 0 d:=s.cell rfl;have c1:O.q a 1 (J (Z ⟨j,k,Y⟩) m l):=s.cell rfl;have c2:O.q (a+1) 0 (b:Int):=w.cell rfl;have B0:=G s;have B1:=G w;have B2:=G I;have B3:=G K;have ab:=G t;have ah:=G L;clear s w I K t L X eP;go_region_held3(fun i=>i.q a 0 d/\i.q a 1 (J (Z ⟨j,k,Y⟩) m l)/\i.q (a+1) 0 (b:Int)/\i.q 16 0 vb/\i.q 17 0 vc)(first|refine⟨?_,?_,?_,?_,?_⟩<;>(show RI _ _=_;repeat' with_reducible first|exact x|exact c1|exact c2|exact M|exact N|refine a5 ?_|refine a3 _ ?_|refine ac ?_ c)|fail)(first|(go_at_call 294;(with_reducible refine(HR.o _).mono ?_);rintro P u⟨rfl,c⟩)|(go_at_call 242;(with_reducible refine(uP _ _).mono ?_);rintro P u⟨rfl,rfl⟩)|(go_at_call 241;(with_reducible refine(KN _ _ (bi.new _ _ _)).mono ?_);rintro P u⟨rfl,rfl⟩)|fail);have o:=(Ow u u).alloc (Ox _) (A #[PA,PA] 64);have Q:=G (a0 ab.o (Am (a0 c o)));have y:=B0.o.aa (Am (a0 c o));have R:=B1.o.aa (Am (a0 c o));have S:=B2.o.aa (Am (a0 c o));have z:=B3.o.aa (Am (a0 c o));clear o c x c1 c2 M N B0 B1 B2 B3 ab;generalize(u.alloc (A #[PA,PA] 64))=p at Q y R S z⊢;have x:p.q a 0 d:=y.cell rfl;have c1:p.q a 1 (J (Z ⟨j,k,Y⟩) m l):=y.cell rfl;have g1:p.q (a+1) 0 (b:Int):=R.cell rfl;have g2:p.q (a+1+1) 0 n:=S.cell rfl;obtain⟨hF,c,_⟩:=d5 p #[Pt (.func 378) #[] #[(a+1:Nat),(a+1+1:Nat)]] 529;have hM:=HM.o;have hI:=HI.o;subst hM;have HC:=G (xR E (a+1) (a+1+1) p j k l f b (b/32) (b%32) (g.getD (b/32) 0) n d g _ ((HB.o.below Q.o).below c) (ac g1 c) (ac g2 c) (hF.cell rfl) Oq Oq Oq HX.o);have ad:=G (z.aa c);have ae:=G (a0 Q.o c);have ai:=G (z.lt);clear hF c g1 g2 y R S z HM;go_wp2_with fail;with_reducible refine(HC.o).mono ?_
 rintro P w7⟨v,rfl,B,af,T⟩;have q:=ad.o.aa T;obtain⟨p',aj,e',_,_⟩:=B.wl.1.sl;rw[B.len]at e';subst e';have HV:=G B;have ak:=G af;have H7:=G q;have HE:=G (a0 ae.o T);have k0:w7.q (a+1+1+1) 0 ():=q.cell rfl;have k1:w7.q (a+1+1+1) 1 (J Y 0 0):=q.cell rfl;have f0:=q.frozen 0;have f1:=q.frozen 1;clear B af q T HC ad ae x c1;go_wp2;have q2:=(H7.o.set 0 d).set 1 (J p' (16*f) aj);refine OM (ca Tryz.results323 _ _ (a+1+1+1) _ _ rfl rfl (P4 _ _ _ _ _ (0,0) _ q2 SU rfl Oo)) rfl ?_;have al:=ah.o;have an:=ai.o;have C:=ak.o;rw[O1]at C;exact⟨_,rfl,(HV.o.setCell (C.mono Oq) _ _).setCell (C.mono Oq) _ _,C.mono Oq,(HE.o.setCell Ol _).setCell Ol _⟩
def D6(a b:Nat):List (Array OU):=(List.range' a (b-a)).map fun c:Nat=>#[U D (c:Int)]
theorem uN(a c b:Nat)(h:b<c-a):(D6 a c)[b]?=Z #[U D ((a+b:Nat):Int)]:=by simp[D6,List.getElem?_range',h]
theorem oT(a b):(D6 a b).length=b-a:=by simp[D6]
theorem w3(b c:Int)(a):OJ Ot 376 #[b,c] a fun e d=>e=Ov (Pt (.func 428) #[] #[a,(a+1:Nat)])/\d=(a.alloc (A #[b] 3)).alloc (A #[c] 3):=by go_in;go_wp2;go_ret;exact⟨rfl,rfl⟩
theorem r9(g:Nat)(t:1<=g)(i j b c:Nat)(m:b<=c)(u:c<=20000):nR g 428 #[.pointer (Z ⟨i,0,Y⟩),.pointer (Z ⟨j,0,Y⟩)] (D6 b c) (fun W=>W.cell? ⟨i,0,Y⟩=Z (U D (b:Int))/\W.cell? ⟨j,0,Y⟩=Z (U D (c:Int))):=fun v n w W e hb hY h0=>by have o:=(e _ _ h0).1;have p:=G hY;have q:=G e;clear e hb hY;refine QA Tryz.func428 rfl Pk ?_ rfl;simp only[Tryz.ntmps428,Pe,OS,OY,Nat.reduceAdd,Nat.reduceSub,O0,OZ,Pb,O5,Pg,O6];gi_wp2;gi_loopw[4](fun f wr=>∃a,b<=a/\a<=c/\f=(a:Int)/\n (a-b) wr)(fun f _=>20001-(Pd f).toNat);(case atStart=>exact⟨b,Ox _,m,rfl,by rw[Vl];exact h0⟩);case round=>obtain⟨a,x,y,rfl,d⟩:=hrel;have hc:=(q.o _ _ d).2;clear o h0;by_cases z:a<c;(·obtain⟨B,C,assign,body,r,k⟩:=p.o (a-b) #[(a:Int)] wr (by rw[uN b c (a-b) Oq,show b+(a-b)=a by omega]) d;gi_wp2;refine k.mono ?_;rintro E F(⟨rfl,l⟩|⟨rfl,s⟩);(·clear r k hc d;rw[show a-b+1=a+1-b by omega]at l;gi_wp2;go_roundw;(case rel=>exact⟨a+1,Oq,Oq,by go_num,l⟩);case measure=>simp[Pd];omega);·gi_wp2;refine OM (PS rfl _ _ _) rfl ?_;exact⟨⟨_,rfl⟩,Pu s⟩);·obtain rfl:a=c:=Oq;gi_wp2;go_end0;exact⟨⟨_,rfl⟩,O4 (by rw[oT];exact d)⟩
theorem HV(n a:Nat)(c:Int)(k:c=512*(a:Int))(o:1<=a)(l:a<=32)(b)(p:Oe b):OJ Ot 173 #[c] b fun e g=>∃i,e=Ov (OP #[O8 #[c,i],()])/\Oc n g i a (PY (16*a) 0)/\N2 b i/\OE b b g:=by
 obtain⟨z,B,C,q,_,_⟩:=p;have E:decide ((0:Int)<=c)=OQ:=Ol;have F:decide (c<=20000)=OQ:=Ol;have r:=G k;clear k;have H:=a3 (A #[(),J Y 0 0] 146) q;go_in;obtain⟨d,j⟩:∃d,d=16*a:=⟨_,rfl⟩;have I:=Mv d Oq;have s:=G j;have t:=G (IF a d c r.o j l);clear j;go_wp2_with fail;with_reducible refine(uP _ _).mono ?_
 rintro f g⟨rfl,rfl⟩;go_wp2_with fail;with_reducible refine(KO _ _ ?_).mono ?_
 ·have:=bi.new (b.alloc (A #[(),J Y 0 0] 146)) #[PA] 64;rwa[O1]at this
 rintro f g⟨rfl,rfl⟩;go_wp2_with fail;with_reducible refine(t.o _).mono ?_
 rintro f g⟨rfl,rfl⟩;go_wp2_with fail;obtain⟨u,_,m,v,_⟩:=g7 b #[c,J (Z ⟨b+1+1,0,Y⟩) d d] #[PA] (dx (U Pq 0) d) 146 64 55;refine OM (ca Tryz.results173 _ _ b _ _ rfl rfl (P4 _ _ _ _ _ (0,0) _ u SU rfl Oo)) rfl ?_;have w:=s.o;subst w;have f:(dx (U Pq 0) (16*a))=(f3 (PY (16*a) 0)).toArray:=by simp[dx,f3]
 rw[f]at m;refine⟨_,rfl,⟨⟨?_,fun x y=>by rw[(List.mem_replicate.1 y).2];omega⟩,On,o,l⟩,EN _ _ _ _ _ Oq,?_⟩;·rw[T3];rw[f];exact Nq.ah m Om (by simp[f3]) (by unfold QE;omega)
 ·rw[f];rwa[f]at v
theorem Fj(K:Nat)(y:OU)(f:Nat)(g:List Nat)(k:Int)(z:k=512*(f:Int))(c:OB)(i:Oc K c y f g):OJ Ot 375 #[O8 #[U D k,y]] c fun e L=>(∃l:Nat,l<=255*512/\e=Ov (U D (l:Int)))/\OE c.heap.size c L:=by obtain⟨m,n,o,rfl,M,N,_,hc⟩:=i.at;have O:=i.n2;have B:=G (iR (Z ⟨m,n,Y⟩) (16*f) o f k z rfl O);have C:=i.len;obtain⟨b,r⟩:∃b,b=16*f:=⟨_,rfl⟩;have ad:b<=512:=Oq;have P:=G (C.trans r.symm);rw[<-r]at B⊢;have Q:=G hc;have R:=G i.wl.2;obtain⟨E,F,_⟩:=d5 c #[U D k,J (Z ⟨m,n,Y⟩) b o] 146;clear C r M N hc i z;go_in;go_wp2_with fail;(with_reducible refine(B.o _).mono ?_);rintro S T⟨rfl,s⟩;have t:=E.aa s;have V:=G t;have W:=G (a0 F s);have c1:T.cell? ⟨c.heap.size,1,Y⟩=Z (J (Z ⟨m,n,Y⟩) b o):=t.cell rfl;clear E F s t;go_wp2_with fail;go_loopw[3,11](fun l u wr=>∃a j:Nat,a<=b/\j<=255*a/\u=U D (a:Int)/\l=U D (j:Int)/\OE c.heap.size c wr/\wr.cell? ⟨c.heap.size,1,Y⟩=Z (J (Z ⟨m,n,Y⟩) b o))(fun _ u _=>600-(Pd u).toNat);(case atStart=>exact⟨0,0,Oq,Oq,rfl,rfl,W.o,c1⟩);case round=>obtain⟨a,j,hk,ae,rfl,rfl,d,H⟩:=hrel;clear c1;by_cases af:a<b;(·(have p:g[a]?=Z (g.getD a 0):=by rw[OL,Oz (by have:=P.o;omega)];rfl);have v:g.getD a 0<4294967296:=R.o _ (ON p);obtain⟨q,I⟩:∃q,g.getD a 0=q:=⟨_,rfl⟩;rw[I]at p v;have X:=ac (Q.o a q p) d;have HO:=G (DZ q v);have w:=G d;have ag:=G d.size;have ah:=G (V.o.lt);have ai:(a:Int)<(b:Int):=Oq;clear p I v d;go_wp2_with fail;(with_reducible refine(HO.o _).mono ?_);rintro S w2⟨⟨aa,hy,rfl⟩,x⟩;have d2:=ac H x;have ab:=G (a0 w.o x);clear x H X;go_wp2;go_roundw;(case rel=>exact⟨a+1,j+aa,Oq,Oq,by go_num,by go_num,ab.o,d2⟩);case measure=>simp[Pd];omega);·obtain rfl:a=b:=Oq;have w:=G d;clear d;go_wp2;go_ret;exact⟨⟨j,Oq,rfl⟩,w.o⟩
end
end Go.Proofs.YtpcaenpbejcagaaGreatDoor
