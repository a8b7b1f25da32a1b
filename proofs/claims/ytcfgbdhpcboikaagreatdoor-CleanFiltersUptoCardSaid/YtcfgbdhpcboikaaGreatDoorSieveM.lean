/-
What is let through holds, and what holds is let through as it is: plain laws.
-/
import Derived.Test.YtcfgbdhpcboikaaGreatDoorEscL
namespace Go.Proofs.YtcfgbdhpcboikaaGreatDoor
set_option maxHeartbeats 8000000
set_option maxRecDepth 100000
open Go.RowKit
def AOk (VV:kV)(A:cW):Prop:=∀nm l,mO (VV nm) l (A nm l)
def xO (ph:List I):Prop:=∀p∈ph,aN p.data.toList=4
theorem xO.nil:xO []:=fun p a=>by simp at a
theorem xO.of {ph:List I}(h:xO ph)(nm:I):xO (yT nm ph):=by
 unfold yT;split;{intro p a;rcases cu.1 a with a|a;{exact h p a};{rw[fh.1 a];assumption}};{exact h}
mutual
def aRR:Nd->Nat
 | .mk _ _ _ _ _ ks=>aP0 ks+1
def aP0:List Nd->Nat
 | []=>0
 | n :: ns=>max (aRR n) (aP0 ns)
end
open Go.RowKit Go.Lib
theorem aLq (V:I->I->Option I)(l:List AT):∃r,mO V l r:=by
 have k:∀a b:AT,(decide (gB a b<=0)||decide (gB b a<=0))=true:=fun a b=>by{unfold gB;rw[lZ a.1.data.toList b.1.data.toList];simp only[la,bi];omega};have m:∀a b c:AT,decide (gB a b<=0)=true->decide (gB b c<=0)=true->decide (gB a c<=0)=true:=fun a b c f d=>by{simp only[bi]at *;unfold gB at *;rcases me f with f|f;{rcases me d with d|d;{have:=vW _ _ _ f d;omega};{rw[<-tG _ _ d];omega}};{rw[tG _ _ f];exact d}};have g:=List.mergeSort_perm (aW V [] l) (fun a b=>decide (gB a b<=0));have j:=List.pairwise_mergeSort (le:=fun a b=>decide (gB a b<=0)) m k (aW V [] l);refine⟨_,g,?_⟩;have i:=(g.pairwise_iff (fun {x y} hxy e=>hxy e.symm)).2 (aAs V l []);unfold rZ;refine(j.and i).imp (fun {a b} h=>?_);have f:gB a b<=0:=br h.1;rcases me f with d|d;{exact d};{exact absurd (fF (tG _ _ d)) h.2}
theorem aI1 (i:H)(j:aA i):∃(a:kV) (A:cW),aED a/\AOk a A/\oY A/\∀e n v t,a e n v=some t->a e n t=some t:=by
 have h:∀e:I,∃V:I->I->Option I,(e.size<=1000000000->aNg e V)/\∀n v t,V n v=some t->V n t=some t:=by{intro e;by_cases c:e.size<=1000000000;{obtain⟨V,g⟩:=aRM i j e c;exact⟨V,fun _=>g,g.again⟩};{exact⟨fun _ _=>none,fun h=>absurd h c,fun n v t h=>by cases h⟩}};obtain⟨a,b⟩:=tt h;have k:∀x:I × List AT,∃r,mO (a x.1) x.2 r:=fun x=>aLq _ _;obtain⟨A,f⟩:=tt k;refine⟨a,fun nm l=>A (nm,l),fun e n v c s d=>((b e).1 (by omega)).val n v s d,fun nm l=>f (nm,l),fun nm at' v W B p q o d=>?_,fun e=>(b e).2⟩;have w:=aH4 nm (by omega) (a nm) (Z (((b nm).1 (by omega)).val)) at' p (Z q) v W o (Z d);refine w.mono ?_;rintro e z ⟨u,r,rfl,hr,m⟩;have y:r=A (nm,at'):=xX hr (f (nm,at'));subst y;exact⟨u,rfl,m⟩
open Go.RowKit
theorem kO:∀a b:List Nd,SmK (a++b)↔SmK a/\SmK b:=by
 intro a;induction a with|nil=>{intro b;rw[d8];exact⟨fun h=>⟨gM,h⟩,fun h=>h.2⟩}|cons x a ih=>{intro b;rw[dw,iX,iX,ih];exact and_assoc.symm}
theorem aKK {t:I}(h:t.size<=100000000):SmN (bG t) :=
 (rU _).2 ⟨by show(⟨#[]⟩:I).size<=_;decide,h,by simp[bG,Nd.attrs],fun x hx=>by simp[bG,Nd.attrs]at hx,gM⟩
theorem aQQ {out:List Nd}{t:I}(h:SmK out)(f:wtK out+t.size<=100000000):SmK (eD out t):=by
 by_cases b:out=[];{subst b;unfold eD;show SmK ([]++[bG t]);rw[kO];exact⟨gM,(iX _ _).2 ⟨aKK (by omega),gM⟩⟩};{obtain⟨e,x,rfl⟩:=rV b;rw[kW];rw[kO,iX]at h;obtain⟨a,h2,_⟩:=h;split;{rw[kO,iX];refine⟨a,?_,gM⟩;obtain⟨c,_,a3,a4,d⟩:=(rU x).1 h2;refine(rU _).2 ⟨c,?_,a3,a4,d⟩;show(x.text++t).size<=_;have:=(kP (e++[x])).2 x (by simp);rw[od];omega};{rw[kO,kO,iX,iX];exact⟨⟨a,h2,gM⟩,aKK (by omega),gM⟩}}
theorem aLs {a:kV}{A:cW}(f:AOk a A)(g:aED a){nm:I}(j:nm.size<=1048576){l:List AT}(i:l.length<=1048576)(h:∀x∈l,x.1.size<=1048576/\x.2.size<=1048576) :
  (A nm l).length<=1048576/\∀x∈A nm l,x.1.size<=1048576/\x.2.size<=1048576:=by
 obtain⟨c,_⟩:=f nm l;refine⟨?_,fun x hx=>?_⟩;{rw[c.length_eq];exact bg (aI2 _ _ _) i};{obtain⟨v,hv,e⟩:=aBy _ _ _ x (c.mem_iff.1 hx);obtain⟨b,d⟩:=h _ hv;have hr:=g nm x.1 v j b d;rw[e]at hr;have:=aCA hr;exact⟨b,by omega⟩}
theorem aMR (d:kV)(A:cW)(j:AOk d A)(k:aED d) :
  (∀(n:Nd) (pn:I) (ph:List I) (out:List Nd),SmN n->wtK out+4*n.tk<=100000000->SmK out->SmK (eF A pn ph out n)) /\
  (∀(l:List Nd) (pn:I) (ph:List I) (out:List Nd),SmK l->wtK out+4*dH l<=100000000->SmK out->SmK (aY A pn ph out l)):=by
 refine uX (P:=fun n=>∀(pn:I) (ph:List I) (out:List Nd),SmN n->wtK out+4*n.tk<=100000000->SmK out->SmK (eF A pn ph out n))
  (Q:=fun l=>∀(pn:I) (ph:List I) (out:List Nd),SmK l->wtK out+4*dH l<=100000000->SmK out->SmK (aY A pn ph out l)) ?_ ?_ ?_
 {intro n h pn ph out b g a;have m:=tY n;obtain⟨c,a2,a3,a4,e⟩:=(rU n).1 b;rw[nU];split;{unfold nE;split;{exact a};{have f:=aBh n.text;exact aQQ a (by omega)}};{split;{exact a};{split;{rw[kO,iX];refine⟨a,?_,gM⟩;obtain⟨c1,c2⟩:=aLs j k c a3 a4;refine(rU _).2 ⟨c,by show(⟨#[]⟩:I).size<=_;decide,c1,c2,?_⟩;show SmK (bB A n.name ph n.kids);unfold bB;split;{exact gM};{exact h n.name _ [] e (by simp only[wtK];omega) gM}};{exact h pn ph out e (by omega) a}}}};{intro pn ph out _ _ a;rw[iQ];exact a};{intro n o i f pn ph out b g a;rw[iX]at b;rw[kF]at g;rw[kN];have c:=(nN A).1 n pn ph out;exact f pn ph _ b.2 (by omega) (i pn ph out b.1 (by omega) a)}
theorem aJs {a:kV}{A:cW}(b:AOk a A)(c:aED a)(pn:I)(ph:List I){l:List Nd}(d:SmK l)(e:4*dH l<=100000000):SmK (bB A pn ph l):=by
 unfold bB;split;{exact gM};{exact(aMR a A b c).2 l pn _ [] d (by simp only[wtK];omega) gM}
theorem aHN (A:cW)(pn:I)(ph:List I){l:List Nd}(c:4*dH l<=100000000):(bB A pn ph l).length<=100000000:=by
 unfold bB;split;{simp};{have a:=(nN A).2 l pn (yT pn ph) [];have b:=(kP (aY A pn (yT pn ph) [] l)).1;simp only[wtK]at a;omega}
theorem aKR:aB []=0:=by unfold aB;rfl
theorem aCw (n:Nd)(l:List Nd):aB (n :: l)=n.sz+aB l:=by conv=>lhs;unfold aB
theorem aDI:∀a b:List Nd,aB (a++b)=aB a+aB b:=by
 intro a;induction a with|nil=>{intro b;rw[d8,aKR];omega}|cons x a ih=>{intro b;rw[dw,aCw,aCw,ih];omega}
theorem aIv (out:List Nd)(t:I):aB (eD out t)<=aB out+1:=by
 have hsA:=aDI;have hone:∀x:Nd,aB [x]=x.sz:=fun x=>by{(conv=>lhs;unfold aB);unfold aB;omega};have b:(bG t).sz=1:=by{rw[jK];show 1+aB []=1;unfold aB;rfl};by_cases a:out=[];{subst a;unfold eD;show aB ([]++[bG t])<=_;rw[hsA,hone,b];exact ah _};{obtain⟨c,x,rfl⟩:=rV a;rw[kW];split;{rw[hsA,hsA,hone,hone];have:(x.more t).sz=x.sz:=by{rw[jK,jK];rfl};omega};{rw[hsA,hone,b];exact ah _}}
theorem aMS (A:cW) :
  (∀(n:Nd) (pn:I) (ph:List I) (out:List Nd),aB (eF A pn ph out n)<=aB out+n.sz) /\
  (∀(l:List Nd) (pn:I) (ph:List I) (out:List Nd),aB (aY A pn ph out l)<=aB out+aB l):=by
 have h:=aDI;have g:∀x:Nd,aB [x]=x.sz:=fun x=>by{(conv=>lhs;unfold aB);unfold aB;omega};have f:aB []=0:=by{unfold aB;rfl};have d:∀(x:Nd) l,aB (x :: l)=x.sz+aB l:=fun x l=>by conv=>lhs;unfold aB
 refine uX (P:=fun n=>∀(pn:I) (ph:List I) (out:List Nd),aB (eF A pn ph out n)<=aB out+n.sz)
  (Q:=fun l=>∀(pn:I) (ph:List I) (out:List Nd),aB (aY A pn ph out l)<=aB out+aB l) ?_ ?_ ?_
 {intro n a pn ph out;have m:=jK n;rw[nU];split;{unfold nE;split;{omega};{have:=aIv out (dK n.text);omega}};{split;{omega};{split;{rw[h,g];have e:(Nd.mk 1 0 n.name (A n.name n.attrs) ⟨#[]⟩ (bB A n.name ph n.kids)).sz=1+aB (bB A n.name ph n.kids):=jK _;have k:aB (bB A n.name ph n.kids)<=aB n.kids:=by{unfold bB;split;{rw[f];exact bb _};{have:=a n.name (yT n.name ph) [];omega}};omega};{have:=a pn ph out;omega}}}};{intro pn ph out;rw[iQ];omega};{intro n o b c pn ph out;rw[kN,d];have i:=b pn ph out;have j:=c pn ph (eF A pn ph out n);omega}
theorem aJt (A:cW)(pn:I)(ph:List I)(l:List Nd):aB (bB A pn ph l)<=aB l:=by
 unfold bB;split;{have:aB []=0:=by{unfold aB;rfl};omega};{have:=(aMS A).2 l pn (yT pn ph) [];have a:aB []=0:=by{unfold aB;rfl};omega}
open Go.RowKit
open Go.RowKit
open Go.RowKit
def aEt (ph:List I):U:=32 :: ph.flatMap fun p=>p.data.toList++[32]
theorem aQp:∀p∈fD,p.2=4->p.1≠[]/\(32:UInt8)∉p.1/\p.1.length<=8:=by decide +kernel
structure rX (ins:I) (ph:List I):Prop where
 eq:ins.data.toList=aEt ph
 kd:∀p∈ph,aN p.data.toList=4
theorem rX.none:rX ⟨#[32]⟩ []:=⟨rfl,fun p h=>by simp at h⟩
theorem rX.push {b nm:I}{ph:List I}(h:rX b ph)(c:aN nm.data.toList=4):rX (b++nm++⟨#[32]⟩) (ph++[nm]):=by
 refine⟨?_,fun p a=>?_⟩;{have:(b++nm++⟨#[32]⟩).data.toList=b.data.toList++nm.data.toList++[32]:=by{simp};rw[this,h.eq];unfold aEt;simp};{rcases cu.1 a with a|a;{exact h.kd p a};{rw[fh]at a;rw[a];exact c}}
theorem aOm:∀ph:List I,(∀p∈ph,aN p.data.toList=4)->(aEt ph).length<=1+9*ph.length:=by
 intro ph;induction ph with|nil=>{intro _;decide}|cons p ph ih=>{intro h;have a:=(aQp _ (aDq (h p du) (by omega)) rfl).2.2;have b:=ih (fun x hx=>h x (d7 _ hx));unfold aEt at *;simp only[gl,bv,ax,db]at *;omega}
theorem rX.size {b:I}{ph:List I}(h:rX b ph):b.size<=1+9*ph.length:=by
 have a:=aOm ph h.kd;rw[<-h.eq]at a;exact a
theorem mG {w:H}{g:Nat}{a b c d e c5:Value}(h:w.heap[g]?=some (.cells #[a,b,c,d,e,c5] 45 (0,0))):Six w g 0 a b c d e c5:=by
 have k:∀j,_:=fun j=>au w g j _ 45 (0,0) h;exact⟨k 0,k 1,k 2,k 3,k 4,k 5⟩
open Go.RowKit
def aHw (A:cW):Prop:=∀(nm:I) (at':List AT) (v:Value) (W:H),nm.size<=1048576->at'.length<=1048576->(∀x∈at',x.1.size<=1048576/\x.2.size<=1048576)->aA W->dZ W v at' ->
 Y 45 #[.string nm,v] W fun e W'=>∃u,e=.returned u/\aF W.heap.size 39 2 u (A nm at').length (bM (A nm at')) W W'
theorem aMi {pn nm:I}{ph:List I}{out:List Nd}(f:∀p∈ph,aN p.data.toList=4) :
  qP pn ph out nm=(if aN nm.data.toList=10/\0<out.length then false else wF pn.data.toList nm.data.toList&&!Lib.containsS ph nm):=by
 unfold qP;have d:Lib.containsS ph nm=true->aN nm.data.toList=4:=fun h=>f _ ((il _ _).1 h);by_cases c:aN nm.data.toList=4;{rw[af c,ae (by omega)]};{have g:Lib.containsS ph nm=false:=by{cases h:Lib.containsS ph nm with|false=>rfl|true=>exact absurd (d h) c};rw[ae c,g];by_cases a:aN nm.data.toList=10;{rw[af a];by_cases b:0<out.length;{rw[af ⟨a,b⟩,bo (fun e=>by rw[e]at b;simp at b)];simp};{rw[ae (fun e=>b e.2),bt (fj (by omega))];simp}};{rw[ae a,ae (fun e=>a e.1)];simp}}
theorem aDT (ph:List I)(nm:I)(q:Nat)(h:q<ph.length):Lib.containsS (ph.take (q+1)) nm=(Lib.containsS (ph.take q) nm||decide (ph[q]=nm)):=by
 rw[fl h,ay,il,la,il,bi,cu,fh];exact⟨fun h=>h.imp id Eq.symm,fun h=>h.imp id Eq.symm⟩
theorem aMA (A:cW)(n:Nd)(V:n.kind=2)(nv:Value)(pn:I)(pv:Value)(ph:List I)(out:List Nd)(v:Value)(u w:H)(HS:G (SmN n))
  (hb:wtK out+4*n.tk<=100000000) (ad:G (Pv u.heap.size v out u w)) (hN:G (bJ u n nv)) :
  Y 106 #[v,.string pn,pv,nv] w (xP u.heap.size u w v (eF A pn ph out n)):=by
 obtain⟨a3,ao,a2,a0,an⟩:=cx Tryz.info45;obtain⟨av,a,c,rfl,_,_,_⟩:=hN.o.get;obtain⟨va,vc,rfl⟩:=ad.o.slice;have hR:eF A pn ph out n=nE pn out n.text:=by{rw[nU,af V]};have bd:=(kP out).1;have aw:=(kP out).2;have bh:=tY n;rw[hR];have al:nE pn out n.text=if dK n.text=⟨#[]⟩\/mX pn.data.toList=false then out else eD out (dK n.text):=rfl
 have bj:=aBh n.text;have T:=fun W=>yX n.text (by have:=HS.o.get.2.1;omega) W;have ht:(⟨(bS n.text.data.toList).toArray⟩:I)=dK n.text:=rfl;rw[ht]at T;generalize nE pn out n.text=R at *;have s:=Z al;have HX:=Z T;have be:out.length<=100000000:=by{omega};have bs:(dK n.text).size<=300000000:=by{have:=HS.o.get.2.1;omega};have a4:G (∀x∈out,x.text.size<=100000000):=fun x hx=>by{have:=aw x hx;omega};clear hR al T ht bj aw bh bd;generalize dK n.text=t at *;have M:=Z (fun W=>aFH pn W);obtain⟨q,hq⟩:∃q,mX pn.data.toList=q:=⟨_,rfl⟩;rw[hq]at M s;clear hq;obtain⟨N,C⟩:=ex (w.alloc (.cells #[.int .i64 n.kind,.int .i64 n.space,.string n.name,av,.string n.text,.slice a n.kids.length c] 45));have ab:G (Below w.heap.size w N):=by{rw[C];exact(am _ w).alloc (ah _) _};have a6:G (Six N w.heap.size 0 (.int .i64 n.kind) (.int .i64 n.space) (.string n.name) av (.string n.text) (.slice a n.kids.length c)):=by{rw[C];exact fE w _ _ _ _ _ _};have a5:=Z C;have e2:(n.kind==2)=true:=by{rw[cn];exact V};obtain⟨y0,y1,y2,y3,y4,y5⟩:=a6.o.zero;clear C hb V;go_enter Tryz.func106,Tryz.ntmps106;go_wp2_with fail;rw[<-a5.o];refine(HX.o N).mono ?_;rintro x W2 ⟨rfl,B2⟩;have ac:=Z (ab.o.trans (B2.mono ab.o.size));clear B2 y0 y1 y2 y3 y4 y5;go_wp2_with fail;refine(M.o W2).mono ?_;rintro x W3 ⟨rfl,B3⟩;have P:Below w.heap.size w W3:=ac.o.trans (B3.mono ac.o.size);have K:=Z (ad.o.keep P);have r:=Z (cV.below (.slice va out.length vc) P);clear B3 P HX M;by_cases y:t=⟨#[]⟩;{subst y;have i:G (R=out):=by{show _=_;rw[s.o,af (Or.inl rfl)]};go_wp2;go_ret;exact⟨_,rfl,by rw[i.o];exact K.o,r.o⟩};have k1:¬t.toList=[]:=fun e=>y (fF (by rw[<-toList_data,e]));have k2:t.toList.isEmpty=false:=by{cases hh:t.toList with|nil=>exact absurd hh k1|cons a b=>rfl};cases q with|false=>{have i:G (R=out):=by{show _=_;rw[s.o,af (Or.inr rfl)]};clear y;go_wp2;go_ret;exact⟨_,rfl,by rw[i.o];exact K.o,r.o⟩}|true=>{have i:G (R=eD out t):=by{show _=_;rw[s.o,ae (by rintro(e|e);exact y e;cases e)]};clear y s;obtain⟨xs,hO,hC⟩:=K.o.row;have f:=Z hO;have E:=Z hC;clear hO hC;by_cases l:out=[];{have J:=Z l;have D:out.length=0:=by{rw[l];rfl};generalize out.length=ol at *;subst D;clear l;go_wp2_with (at_builtin;refine aU (by rfl) _ _ 43 (by rfl) 45 a3 _ 6 96 Tryz.underlying43 ao a2 a0 an rfl (by decide) _ _ _ rfl f.o #[.int .i64 2,.int .i64 0,.string ⟨#[]⟩,.slice none 0 0,.string t,.slice none 0 0] rfl rfl rfl rfl (by omega) (by omega) ?_);intro v' w' B z;have p:=Z (Pv.push E.o (mD _ _ t) _ (B.o.cast (by rw[J.o];rfl) rfl) z.o);clear B z;go_wp2;go_ret;refine⟨_,rfl,?_,r.o.trans p.o.2⟩;rw[i.o,J.o];have:=p.o.1;rw[J.o]at this;exact this};{obtain⟨d,x,h⟩:=rV l;obtain⟨g,c',hv,_,_,_⟩:=f.o.atRow (g7.2 l);simp only[ce,fk]at hv;obtain⟨rfl,rfl⟩:=hv;have j:=E.o;rw[h]at j;have bk:=f.o.cell _ _ j.at.1;have bl:=f.o.cell _ _ j.at.2;have D:out.length=d.length+1:=by{rw[h];simp};have bq:decide ((0:Int)<=(d.length:Int))=true:=bt (by omega);have bf:(out.length:Int)-1=(d.length:Int):=by{omega};have a9:d.length<out.length:=by{omega};have bx:=a4.o x (by rw[h];simp);have aa:=Z (kW d x t);have a7:=Z h;by_cases m:x.kind=2;{have e3:(x.kind==2)=true:=by{rw[cn];exact m};have a1:d.length*6+4+1<=xs.length:=by{rw[j.1];simp;omega};have a8:=(f.o.there (d.length*6+4) 1 a1 0 (by omega)).2;rw[gw]at a8;have HM:=Z (Pv.more (by rw[<-h]) f.o j t);have L:G (R=d++[x.more t]):=by{show _=_;rw[i.o,h,aa.o,af m]};clear m j h l a1;generalize d.length=k at *;generalize out.length=ol at *;clear D;go_wp2;go_ret;exact⟨_,rfl,by rw[L.o];exact HM.o.1,r.o.trans HM.o.2⟩};{have e3:(x.kind==2)=false:=by{rw[ai];exact m};have L:G (R=out++[bG t]):=by{show _=_;rw[i.o,a7.o,aa.o,ae m]};clear m j h l;generalize d.length=k at *;obtain⟨ol,X⟩:∃ol,out.length=ol:=⟨_,rfl⟩;have F:=Z X;rw[X]at f bf a9 be ⊢;clear X D;go_wp2_with (at_builtin;refine aU (by rfl) _ _ 43 (by rfl) 45 a3 _ 6 96 Tryz.underlying43 ao a2 a0 an rfl (by decide) _ _ _ rfl f.o #[.int .i64 2,.int .i64 0,.string ⟨#[]⟩,.slice none 0 0,.string t,.slice none 0 0] rfl rfl rfl rfl (by omega) (by omega) ?_);intro v' w' B z;have Q:=E.o;have S:=r.o;rw[F.o]at Q S;have p:=Z (Pv.push Q (mD _ _ t) _ (B.o.cast (by rw[F.o]) rfl) z.o);have HG:=Z (S.trans p.o.2);clear B z Q S;go_wp2;go_ret;exact⟨_,rfl,by rw[L.o];exact p.o.1,by rw[F.o];exact HG.o⟩}}}
