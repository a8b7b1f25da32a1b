/-
What is let through is of a size that the walks bear.
-/
import Derived.Test.YtcfgbdhpcboikaaGreatDoorSieveD
namespace Go.Proofs.YtcfgbdhpcboikaaGreatDoor
set_option maxHeartbeats 4000000
set_option maxRecDepth 100000
open Go.RowKit
theorem fX {n:Nat}:n<=n:=ag n
theorem kE:∀a b:List Nd,SmK (a++b)↔SmK a/\SmK b:=by
 intro a;induction a with|nil=>{intro b;rw[en];exact⟨fun h=>⟨eR,h⟩,fun h=>h.2⟩}|cons x a ih=>{intro b;rw[dh,eI,eI,ih];exact and_assoc.symm}
theorem aGQ {t:I}(h:t.size<=100000000):SmN (bG t) :=
  (nN _).2 ⟨by show(⟨#[]⟩:I).size<=_;decide,h,by simp[bG,Nd.attrs],fun x hx=>by simp[bG,Nd.attrs]at hx,eR⟩
theorem aRP {out:List Nd}{t:I}(h:SmK out)(f:wtK out+t.size<=100000000):SmK (eN out t):=by
 by_cases b:out=[];{subst b;unfold eN;show SmK ([]++[bG t]);rw[kE];exact⟨eR,(eI _ _).2 ⟨aGQ (by omega),eR⟩⟩};{obtain⟨e,x,rfl⟩:=qU b;rw[kN];rw[kE,eI]at h;obtain⟨a,h2,_⟩:=h;split;{rw[kE,eI];refine⟨a,?_,eR⟩;obtain⟨c,_,a3,a4,d⟩:=(nN x).1 h2;refine(nN _).2 ⟨c,?_,a3,a4,d⟩;show(x.text++t).size<=_;have:=(lV (e++[x])).2 x (by simp);rw[m7];omega};{rw[kE,kE,eI,eI];exact⟨⟨a,h2,eR⟩,aGQ (by omega),eR⟩}}
theorem aMt {a:lW}{A:cY}(f:AOk a A)(g:aDA a){nm:I}(j:nm.size<=1048576){l:List AT}(i:l.length<=1048576)(h:∀x∈l,x.1.size<=1048576/\x.2.size<=1048576) :
    (A nm l).length<=1048576/\∀x∈A nm l,x.1.size<=1048576/\x.2.size<=1048576:=by
 obtain⟨c,_⟩:=f nm l;refine⟨?_,fun x hx=>?_⟩;{rw[c.length_eq];exact bg (aJ2 _ _ _) i};{obtain⟨v,hv,e⟩:=aCj _ _ _ x (c.mem_iff.1 hx);obtain⟨b,d⟩:=h _ hv;have hr:=g nm x.1 v j b d;rw[e]at hr;have:=aDx hr;exact⟨b,by omega⟩}
theorem aNQ (d:lW)(A:cY)(j:AOk d A)(k:aDA d) :
    (∀(n:Nd) (pn:I) (ph:List I) (out:List Nd),SmN n->wtK out+4*n.tk<=100000000->SmK out->SmK (eG A pn ph out n)) /\
    (∀(l:List Nd) (pn:I) (ph:List I) (out:List Nd),SmK l->wtK out+4*aE l<=100000000->SmK out->SmK (aT A pn ph out l)):=by
 refine rR (P:=fun n=>∀(pn:I) (ph:List I) (out:List Nd),SmN n->wtK out+4*n.tk<=100000000->SmK out->SmK (eG A pn ph out n))
   (Q:=fun l=>∀(pn:I) (ph:List I) (out:List Nd),SmK l->wtK out+4*aE l<=100000000->SmK out->SmK (aT A pn ph out l)) ?_ ?_ ?_
 {intro n h pn ph out b g a;have m:=cO n;obtain⟨c,a2,a3,a4,e⟩:=(nN n).1 b;rw[mX];split;{unfold nO;split;{exact a};{have f:=oU n.text;exact aRP a (by omega)}};{split;{exact a};{split;{rw[kE,eI];refine⟨a,?_,eR⟩;obtain⟨c1,c2⟩:=aMt j k c a3 a4;refine(nN _).2 ⟨c,by show(⟨#[]⟩:I).size<=_;decide,c1,c2,?_⟩;show SmK (aM A n.name ph n.kids);unfold aM;split;{exact eR};{exact h n.name _ [] e (by simp only[wtK];omega) eR}};{exact h pn ph out e (by omega) a}}}};{intro pn ph out _ _ a;rw[fT];exact a};{intro n o i f pn ph out b g a;rw[eI]at b;rw[cJ]at g;rw[kD];have c:=(lP A).1 n pn ph out;exact f pn ph _ b.2 (by omega) (i pn ph out b.1 (by omega) a)}
theorem aKu {a:lW}{A:cY}(b:AOk a A)(c:aDA a)(pn:I)(ph:List I){l:List Nd}(d:SmK l)(e:4*aE l<=100000000):SmK (aM A pn ph l):=by
 unfold aM;split;{exact eR};{exact(aNQ a A b c).2 l pn _ [] d (by simp only[wtK];omega) eR}
theorem aCB (A:cY)(pn:I)(ph:List I){l:List Nd}(c:4*aE l<=100000000):(aM A pn ph l).length<=100000000:=by
 unfold aM;split;{simp};{have a:=(lP A).2 l pn (sH pn ph) [];have b:=(lV (aT A pn (sH pn ph) [] l)).1;simp only[wtK]at a;omega}
theorem mY:aB []=0:=by unfold aB;rfl
theorem gG (n:Nd)(l:List Nd):aB (n :: l)=n.sz+aB l:=by conv=>lhs;unfold aB
theorem aAF:∀a b:List Nd,aB (a++b)=aB a+aB b:=by
 intro a;induction a with|nil=>{intro b;rw[en,mY];omega}|cons x a ih=>{intro b;rw[dh,gG,gG,ih];omega}
theorem aJu (out:List Nd)(t:I):aB (eN out t)<=aB out+1:=by
 have hsA:=aAF;have hone:∀x:Nd,aB [x]=x.sz:=fun x=>by{(conv=>lhs;unfold aB);unfold aB;omega};have b:(bG t).sz=1:=by{rw[dS];show 1+aB []=1;unfold aB;rfl};by_cases a:out=[];{subst a;unfold eN;show aB ([]++[bG t])<=_;rw[hsA,hone,b];exact ag _};{obtain⟨c,x,rfl⟩:=qU a;rw[kN];split;{rw[hsA,hsA,hone,hone];have:(x.more t).sz=x.sz:=by{rw[dS,dS];rfl};omega};{rw[hsA,hone,b];exact ag _}}
theorem aNR (A:cY) :
    (∀(n:Nd) (pn:I) (ph:List I) (out:List Nd),aB (eG A pn ph out n)<=aB out+n.sz) /\
    (∀(l:List Nd) (pn:I) (ph:List I) (out:List Nd),aB (aT A pn ph out l)<=aB out+aB l):=by
 have h:=aAF;have g:∀x:Nd,aB [x]=x.sz:=fun x=>by{(conv=>lhs;unfold aB);unfold aB;omega};have f:aB []=0:=by{unfold aB;rfl};have d:∀(x:Nd) l,aB (x :: l)=x.sz+aB l:=fun x l=>by conv=>lhs;unfold aB
 refine rR (P:=fun n=>∀(pn:I) (ph:List I) (out:List Nd),aB (eG A pn ph out n)<=aB out+n.sz)
   (Q:=fun l=>∀(pn:I) (ph:List I) (out:List Nd),aB (aT A pn ph out l)<=aB out+aB l) ?_ ?_ ?_
 {intro n a pn ph out;have m:=dS n;rw[mX];split;{unfold nO;split;{omega};{have:=aJu out (dK n.text);omega}};{split;{omega};{split;{rw[h,g];have e:(Nd.mk 1 0 n.name (A n.name n.attrs) ⟨#[]⟩ (aM A n.name ph n.kids)).sz=1+aB (aM A n.name ph n.kids):=dS _;have k:aB (aM A n.name ph n.kids)<=aB n.kids:=by{unfold aM;split;{rw[f];exact ax _};{have:=a n.name (sH n.name ph) [];omega}};omega};{have:=a pn ph out;omega}}}};{intro pn ph out;rw[fT];omega};{intro n o b c pn ph out;rw[kD,d];have i:=b pn ph out;have j:=c pn ph (eG A pn ph out n);omega}
theorem aEi (A:cY)(pn:I)(ph:List I)(l:List Nd):aB (aM A pn ph l)<=aB l:=by
 unfold aM;split;{have:aB []=0:=by{unfold aB;rfl};omega};{have:=(aNR A).2 l pn (sH pn ph) [];have a:aB []=0:=by{unfold aB;rfl};omega}
theorem lA:∀a b:List Nd,aE (a++b)=aE a+aE b:=by
 intro a;induction a with
 | nil => intro b; have : aE [] = 0 := by unfold aE; rfl
          rw [en]; omega
 | cons n a ih=>intro b;rw[dh,cJ,cJ,ih];omega
theorem jW (n:Nd):aE [n]=n.tk:=by
 rw[cJ];have:aE []=0:=by{unfold aE;rfl};omega
theorem aGV (t:I):(bG t).tk=1+t.size:=by
 rw[cO];show 1+t.size+aE []=_;have:aE []=0:=by{unfold aE;rfl};omega
theorem aJA (out:List Nd)(t:I):aE (eN out t)<=aE out+1+t.size:=by
 by_cases a:out=[];{subst a;unfold eN;show aE ([]++[bG t])<=_;rw[lA,jW,aGV];omega};{obtain⟨b,x,rfl⟩:=qU a;rw[kN];split;{rw[lA,lA,jW,jW];have:(x.more t).tk=x.tk+t.size:=by{rw[cO,cO];show 1+(x.text++t).size+aE x.kids=_;rw[m7];omega};omega};{rw[lA,jW,aGV];omega}}
theorem aNS (A:cY) :
    (∀(n:Nd) (pn:I) (ph:List I) (out:List Nd),aE (eG A pn ph out n)<=aE out+3*n.tk) /\
    (∀(l:List Nd) (pn:I) (ph:List I) (out:List Nd),aE (aT A pn ph out l)<=aE out+3*aE l):=by
 have i:aE []=0:=by unfold aE;rfl
 refine rR (P:=fun n=>∀(pn:I) (ph:List I) (out:List Nd),aE (eG A pn ph out n)<=aE out+3*n.tk)
   (Q:=fun l=>∀(pn:I) (ph:List I) (out:List Nd),aE (aT A pn ph out l)<=aE out+3*aE l) ?_ ?_ ?_
 {intro n c pn ph out;have h:=cO n;rw[mX];split;{unfold nO;split;{omega};{have a:=aJA out (dK n.text);have b:=oU n.text;omega}};{split;{omega};{split;{rw[lA,jW];have e:(Nd.mk 1 0 n.name (A n.name n.attrs) ⟨#[]⟩ (aM A n.name ph n.kids)).tk=1+aE (aM A n.name ph n.kids):=by{rw[cO];show 1+(⟨#[]⟩:I).size+aE (aM A n.name ph n.kids)=_;simp[ByteArray.size]};have g:aE (aM A n.name ph n.kids)<=3*aE n.kids:=by{unfold aM;split;{omega};{have:=c n.name (sH n.name ph) [];omega}};omega};{have:=c pn ph out;omega}}}};{intro pn ph out;rw[fT];omega};{intro n j a b pn ph out;rw[kD,cJ];have d:=a pn ph out;have f:=b pn ph (eG A pn ph out n);omega}
theorem aKv (A:cY)(pn:I)(ph:List I)(l:List Nd):aE (aM A pn ph l)<=3*aE l:=by
 have a:aE []=0:=by{unfold aE;rfl};unfold aM;split;{omega};{have:=(aNS A).2 l pn (sH pn ph) [];omega}
open Go.RowKit Go.Lib
theorem aMr (V:I->I->Option I)(l:List AT):∃r,nX V l r:=by
 have k:∀a b:AT,(decide (gZ a b<=0)||decide (gZ b a<=0))=true:=fun a b=>by{unfold gZ;rw[nF a.1.data.toList b.1.data.toList];simp only[k8,bm];omega};have m:∀a b c:AT,decide (gZ a b<=0)=true->decide (gZ b c<=0)=true->decide (gZ a c<=0)=true:=fun a b c f d=>by{simp only[bm]at *;unfold gZ at *;rcases m5 f with f|f;{rcases m5 d with d|d;{have:=xY _ _ _ f d;omega};{rw[<-uY _ _ d];omega}};{rw[uY _ _ f];exact d}};have g:=List.mergeSort_perm (bC V [] l) (fun a b=>decide (gZ a b<=0));have j:=List.pairwise_mergeSort (le:=fun a b=>decide (gZ a b<=0)) m k (bC V [] l);refine⟨_,g,?_⟩;have i:=(g.pairwise_iff (fun {x y} hxy e=>hxy e.symm)).2 (aBf V l []);unfold tV;refine(j.and i).imp (fun {a b} h=>?_);have f:gZ a b<=0:=bv h.1;rcases m5 f with d|d;{exact d};{exact absurd (eY (uY _ _ d)) h.2}
theorem aJ1 (i:H)(j:aA i):∃(a:lW) (A:cY),aDA a/\AOk a A/\oV A/\∀e n v t,a e n v=some t->a e n t=some t:=by
 have h:∀e:I,∃V:I->I->Option I,(e.size<=1000000000->aOh e V)/\∀n v t,V n v=some t->V n t=some t:=by{intro e;by_cases c:e.size<=1000000000;{obtain⟨V,g⟩:=aSM i j e c;exact⟨V,fun _=>g,g.again⟩};{exact⟨fun _ _=>none,fun h=>absurd h c,fun n v t h=>by cases h⟩}};obtain⟨a,b⟩:=su h;have k:∀x:I × List AT,∃r,nX (a x.1) x.2 r:=fun x=>aMr _ _;obtain⟨A,f⟩:=su k;refine⟨a,fun nm l=>A (nm,l),fun e n v c s d=>((b e).1 (by omega)).val n v s d,fun nm l=>f (nm,l),fun nm at' v W B p q o d=>?_,fun e=>(b e).2⟩;have w:=aI1 nm (by omega) (a nm) (Z (((b nm).1 (by omega)).val)) at' p (Z q) v W o (Z d);refine w.mono ?_;rintro e z ⟨u,r,rfl,hr,m⟩;have y:r=A (nm,at'):=zZ hr (f (nm,at'));subst y;exact⟨u,rfl,m⟩
open Go.RowKit
theorem aOE {a:lW}{A:cY}(b:AOk a A)(e:I):A e []=[]:=by
 obtain⟨c,_⟩:=b e [];exact List.Perm.eq_nil (show(A e []).Perm []from c)
theorem aCr {nm:I}{a:List Nd}(b:nm.size<=1048576)(h:SmK a):SmN (elN nm a) :=
  (nN _).2 ⟨b,by show(⟨#[]⟩:I).size<=_;decide,by simp[elN,Nd.attrs],fun x hx=>by simp[elN,Nd.attrs]at hx,h⟩
theorem aCs (nm:I)(ks:List Nd):(elN nm ks).tk=1+aE ks:=by
 rw[cO];show 1+(⟨#[]⟩:I).size+aE ks=_;simp[ByteArray.size]
open Go.RowKit
theorem gE (w:H):fK w (.slice none 0 0) []:=⟨none,0,rfl,fun j h=>absurd h (by simp)⟩
theorem Tryz.struct45:(match Tryz.prog.underlying 45 with|some (.struct _)=>true|_=>false)=true:=by kernel_rfl
theorem aAb {b:Func}{p:Tmp}(h:b.results=#[.cell p 45])(a:Array Value)(w:H)(g:Nat)(c0 c1 c2 c3 c4 c5:Value)
    (e:a.getD p undef=.pointer (some ⟨g,0,none⟩)) (d:w.heap[g]?=some (.cells #[c0,c1,c2,c3,c4,c5] 45 (0,0))) :
    (results b a).run Tryz.prog w=.ok (.agg #[c0,c1,c2,c3,c4,c5]) w:=by
 have c:=Tryz.struct45;obtain⟨m,hi,k,i,l⟩:=cq Tryz.info45;split at c;{rename_i j f;exact results_cell_row h a w g 45 _ (0,0) _ e d f rfl (by rw[hi];simp[i])};{exact absurd c (by simp)}
theorem aA6 (s:I)(w:H):Y 61 #[.string s] w fun e w' =>
    (∃v,e=.returned v/\v=.agg #[.int .i64 2,.int .i64 0,.string ⟨#[]⟩,.slice none 0 0,.string s,.slice none 0 0]/\aH w' (bG s) v)/\Below w.heap.size w w':=by
 go_enter Tryz.func61,Tryz.ntmps61;go_wp2;refine fk (aAb rfl _ _ w.heap.size _ _ _ _ _ _ rfl (bi w _)) rfl ?_;refine⟨⟨_,rfl,rfl,?_⟩,(aj _ w).alloc fX _⟩;unfold bG aH;exact⟨_,none,0,rfl,by simp,gE _,by unfold aW;trivial⟩
theorem sR (nm:I)(b:List Nd)(a:Option Addr)(c:Nat)(w:H)(g:b.length<=1000000000)(f:G (aW w a 0 b)):Y 51 #[.string nm,.slice a b.length c] w fun e w' =>
    (∃v,e=.returned v/\v=.agg #[.int .i64 1,.int .i64 0,.string nm,.slice none 0 0,.string ⟨#[]⟩,.slice a b.length c]/\aH w' (elN nm b) v)/\Below w.heap.size w w':=by
 go_enter Tryz.func51,Tryz.ntmps51;go_wp2;refine fk (aAb rfl _ _ w.heap.size _ _ _ _ _ _ rfl (bi w _)) rfl ?_;have d:=(aj w.heap.size w).alloc fX (.cells #[.int .i64 1,.int .i64 0,.string nm,.slice none 0 0,.string ⟨#[]⟩,.slice a b.length c] 45);refine⟨⟨_,rfl,rfl,?_⟩,d⟩;unfold elN aH;exact⟨_,a,c,rfl,by omega,gE _,f.o.below d fX⟩
open Go.RowKit
theorem jR {b:Func}{p q:Tmp}(h:b.results=#[.cell p 45,.tmp q])(a:Array Value)(w:H)(g:Nat)(c0 c1 c2 c3 c4 c5 u:Value)
    (e:a.getD p undef=.pointer (some ⟨g,0,none⟩)) (hq:a.getD q undef=u) (d:w.heap[g]?=some (.cells #[c0,c1,c2,c3,c4,c5] 45 (0,0))) :
    (results b a).run Tryz.prog w=.ok (.tuple #[.agg #[c0,c1,c2,c3,c4,c5],u]) w:=by
 have c:=Tryz.struct45;obtain⟨o,hi,m,k,n⟩:=cq Tryz.info45;have f:a[p]?.getD undef=.pointer (some ⟨g,0,none⟩):=by{simpa using e};have i:a[q]?.getD undef=u:=by{simpa using hq};split at c;{rename_i l j;simp[results,h,f,i,asAddr,run_loadVar_row w g 45 45 _ (0,0) _ d j rfl (by rw[hi];simp[k])]};{exact absurd c (by simp)}
theorem iP (nm:I)(b:List Nd)(a:Option Addr)(c:Nat)(w:H)(g:b.length<=1000000000)(f:G (aW w a 0 b)):Y 103 #[.string nm,.slice a b.length c] w fun e w' =>
    (∃v,e=.returned v/\v=.agg #[.int .i64 1,.int .i64 0,.string nm,.slice none 0 0,.string ⟨#[]⟩,.slice a b.length c]/\aH w' (elN nm b) v)/\Below w.heap.size w w':=by
 go_enter Tryz.func103,Tryz.ntmps103;go_wp2;refine fk (aAb rfl _ _ w.heap.size _ _ _ _ _ _ rfl (bi w _)) rfl ?_;have d:=(aj w.heap.size w).alloc fX (.cells #[.int .i64 1,.int .i64 0,.string nm,.slice none 0 0,.string ⟨#[]⟩,.slice a b.length c] 45);refine⟨⟨_,rfl,rfl,?_⟩,d⟩;unfold elN aH;exact⟨_,a,c,rfl,by omega,gE _,f.o.below d fX⟩
theorem aAR (w:H):aH w qG (.agg #[.int .i64 0,.int .i64 0,.string ⟨#[]⟩,.slice none 0 0,.string ⟨#[]⟩,.slice none 0 0]):=by
 unfold qG aH;exact⟨_,none,0,rfl,by simp,gE w,by unfold aW;trivial⟩
theorem aCE (nm:I)(l:List Nd)(k:Nat)(h:k<l.length):aD nm (l.drop k)=if pU nm l[k]then l[k]else aD nm (l.drop (k+1)):=by
 rw[dy h];conv=>lhs;unfold aD
theorem aEj (l:List Nd)(nm:I)(a:Option Addr)(c:Nat)(w:H)(hl:l.length<=140737488355328)(T:G (aW w a 0 l)) :
    Y 109 #[.slice a l.length c,.string nm] w fun e w'=>(∃v b,e=.returned (.tuple #[v,.bool b])/\aH w' (aD nm l) v)/\Below w.heap.size w w':=by
  obtain⟨ah,R,ad,S,ab⟩:=cq Tryz.info45;go_enter Tryz.func109,Tryz.ntmps109
  go_wp2
  obtain⟨r,s⟩:=ex (w.alloc (.cells #[.int .i64 0,.int .i64 0,.string ⟨#[]⟩,.slice none 0 0,.string ⟨#[]⟩,.slice none 0 0] 45))
  have P:=Z (show r.heap[w.heap.size]?=some (.cells #[.int .i64 0,.int .i64 0,.string ⟨#[]⟩,.slice none 0 0,.string ⟨#[]⟩,.slice none 0 0] 45 (0,0)) by rw[s];exact bi w _);have L:=Z (show Below w.heap.size w r by rw[s];exact(aj _ w).alloc fX _);have N:=Z (show w.heap.size<r.heap.size by rw[s];simp);rw[<-s];clear s;go_loopw [10] (fun i wx=>∃k:Nat,i=.int .i64 k/\G (k<=l.length/\aD nm (l.drop k)=aD nm l/\Below r.heap.size r wx)) (fun i _=>l.length-(intOf i).toNat)
  case atStart=>exact⟨0,rfl,Z ⟨ax _,rfl,aj _ _⟩⟩
  case round =>
    obtain⟨k,rfl,d⟩:=hrel;have hk:=d.o.1;have u:=Z (L.o.trans (d.o.2.2.mono L.o.size));rcases ak k l.length with t|aa
    · obtain⟨g,al,c0,c1,c2,c3,c4,c5,rfl,E,K⟩:=T.o.get l 0 k t
      rw[be]at E
      obtain⟨x0,x1,x2,x3,x4,x5⟩:=E.below u.o fX;obtain⟨A,C,B,D,rfl,rfl,rfl,rfl,rfl,rfl⟩:=K.cells;have W:=Z K;have y:=Z (aCE nm l k t);clear K E;generalize l[k]=q at *
      obtain⟨V,z⟩:=ex (wr.alloc (.cells #[.int .i64 q.kind,.int .i64 q.space,.string q.name,.slice A q.attrs.length C,.string q.text,.slice B q.kids.length D] 45))
      have J:Below wr.heap.size wr V:=by rw[z];exact(aj _ wr).alloc fX _
      have F:=bR wr (.int .i64 q.kind) (.int .i64 q.space) (.string q.name) (.slice A q.attrs.length C) (.string q.text) (.slice B q.kids.length D);rw[<-z]at F
      have Q:=Z z;have x:=Z (d.o.2.2.trans (J.mono d.o.2.2.size));have M:=Z (u.o.trans (J.mono u.o.size));have p:=Z ((x.o.block w.heap.size N.o).trans P.o);clear J z;go_upto_region 4 with fail
      rw[<-Q.o];clear x0 x1 x2 x3 x4 x5;obtain⟨x0,x1,x2,x3,x4,x5⟩:=F.zero;clear F Q;by_cases j:q.kind=1
      · have X:(q.kind==1)=true:=by rw[j];rfl
        by_cases m:q.space=0
        · have e2:(q.space==0)=true:=by rw[m];rfl
          by_cases n:q.name=nm
          · have e3:(q.name.toList==nm.toList)=true:=by rw[n];simp
            have f:=Z (show aD nm l=q by rw[<-d.o.2.1,y.o,ae ⟨j,m,n⟩]);clear j m n;go_wp2_with (refine ff (by rfl) 45 (.tmp 4) (.tmp 28) rfl w.heap.size #[.int .i64 q.kind,.int .i64 q.space,.string q.name,.slice A q.attrs.length C,.string q.text,.slice B q.kids.length D] rfl rfl 45 _ p.o (by rw[R];simp[S]) rfl (by simp[Value.oneCell']) ?_)
            refine fk (jR rfl _ _ w.heap.size _ _ _ _ _ _ (.bool true) rfl rfl (df V w.heap.size _ _ 45 (0,0) p.o)) rfl ?_;rw[f.o];exact⟨⟨_,_,rfl,W.o.below (bI M.o w.heap.size fX _) fX⟩,bI M.o w.heap.size fX _⟩
          · have e3:(q.name.toList==nm.toList)=false:=by rw[ai];exact aCp n
            have f:=Z (show aD nm (l.drop (k+1))=aD nm l by rw[<-d.o.2.1,y.o,ac (fun h=>n h.2.2)]);clear n;go_wp2
            go_roundw
            case rel=>exact⟨k+1,by go_num,Z ⟨t,f.o,x.o⟩⟩
            case measure=>simp[intOf];omega
        · have e2:(q.space==0)=false:=by rw[ai];exact m
          have f:=Z (show aD nm (l.drop (k+1))=aD nm l by rw[<-d.o.2.1,y.o,ac (fun h=>m h.2.1)]);clear m;go_wp2
          go_roundw
          case rel=>exact⟨k+1,by go_num,Z ⟨t,f.o,x.o⟩⟩
          case measure=>simp[intOf];omega
      · have X:(q.kind==1)=false:=by rw[ai];exact j
        have f:=Z (show aD nm (l.drop (k+1))=aD nm l by rw[<-d.o.2.1,y.o,ac (fun h=>j h.1)]);clear j;go_wp2
        go_roundw
        case rel=>exact⟨k+1,by go_num,Z ⟨t,f.o,x.o⟩⟩
        case measure=>simp[intOf];omega
    · have f:=Z (show aD nm l=qG by rw[<-d.o.2.1,d6 aa];unfold aD;rfl)
      have p:=Z ((d.o.2.2.block w.heap.size N.o).trans P.o);go_wp2_with (refine ff (by rfl) 45 (.tmp 4) (.tmp 30) rfl w.heap.size #[.int .i64 0,.int .i64 0,.string ⟨#[]⟩,.slice none 0 0,.string ⟨#[]⟩,.slice none 0 0] rfl rfl 45 _ p.o (by rw[R];simp[S]) rfl (by simp[Value.oneCell']) ?_)
      refine fk (jR rfl _ _ w.heap.size _ _ _ _ _ _ (.bool false) rfl rfl (df wr w.heap.size _ _ 45 (0,0) p.o)) rfl ?_;rw[f.o];exact⟨⟨_,_,rfl,aAR _⟩,bI u.o w.heap.size fX _⟩
theorem lG (nm:I)(l:List Nd):(aD nm l).tk<=1+aE l:=by
 induction l with|nil=>{unfold aD;decide}|cons n l ih=>{unfold aD;rw[cJ];split;{omega};{omega}}
theorem qO (l:List Nd):(dN l).length<=aE l:=by
 induction l with|nil=>exact ax _|cons n l ih=>{unfold dN;rw[cJ,cO,aw];split;{have e:n.text.data.toList.length=n.text.size:=rfl;omega};{simp only[cu];omega}}
theorem aCN (n:Nd)(l:List Nd):dN (n :: l)=(if n.kind=2 then n.text.data.toList else [])++dN l:=by conv=>lhs;unfold dN
theorem aEm (l:List Nd)(k:Nat)(h:k<l.length):dN (l.take (k+1))=dN (l.take k)++(if l[k].kind=2 then l[k].text.data.toList else []):=by
 have c:∀a b:List Nd,dN (a++b)=dN a++dN b:=by{intro a;induction a with|nil=>{intro b;rfl}|cons n a ih=>{intro b;rw[dh,aCN,aCN,ih,ct]}};rw[fw h,c];congr 1;unfold dN dN;rw[dc]
structure aIv (l:List Nd) (B k:Nat) (w wx:H) (o':U):Prop where
  le:k<=l.length
  bld:Lib.IsBuilderF 112 5 B B (Lib.byteCells o') wx
  bel:Below B w wx
  o:o'=dN (l.take k)
theorem aEH (n:Nd)(v:Value)(w:H)(hb:n.tk<=300000000)(HT:G (aA w))(HN:G (aH w n v)) :
    Y 58 #[v] w (O (.string (fF n)) w):=by
 obtain⟨bf,a,c,rfl,hA,hK,hlen⟩:=HN.o.get;have HK:=Z hK;have x:=Z (fun(W:H) (h:G (aW W a 0 n.kids))=>aEj n.kids cN a c W hlen h);have A:G (fF n=dK ⟨(dN (aD bM (aD cN n.kids).kids).kids).toArray⟩):=rfl;have a0:aE (aD bM (aD cN n.kids).kids).kids<=300000000:=by{have h0:=cO n;have d:=lG cN n.kids;have h2:=cO (aD cN n.kids);have h3:=lG bM (aD cN n.kids).kids;have h4:=cO (aD bM (aD cN n.kids).kids);omega};clear hA hK HN hb;generalize fF n=tit at *;generalize n.kids=ks at *;generalize n.kind=kd at *;generalize n.space=sp at *;generalize n.name=nm at *;generalize n.text=tx at *;unfold cN at x;go_enter Tryz.func58,Tryz.ntmps58;go_wp2_with fail;obtain⟨W0,K⟩:=ex (w.alloc (.cells #[.int .i64 kd,.int .i64 sp,.string nm,bf,.string tx,.slice a ks.length c] 45));have ah:Below w.heap.size w W0:=by{rw[K];exact(aj _ w).alloc fX _};rw[<-K];have s:=Z ah;clear K ah;refine(x.o W0 (Z (HK.o.below s.o fX))).mono ?_;rintro e p ⟨⟨v1,b1,rfl,a1⟩,M⟩;obtain⟨bl,C,c1,rfl,⟨a9,bh,rfl,_⟩,al,ar⟩:=a1.get;have Q:=Z (s.o.trans (M.mono s.o.size));have aa:=Z al;have y:=Z (fun(W:H) (h:G (aW W C 0 (aD ⟨#[104,101,97,100]⟩ ks).kids))=>aEj (aD ⟨#[104,101,97,100]⟩ ks).kids bM C c1 W ar h);unfold cN at A a0;unfold bM at A a0 y;clear M a1 al ar x HK;generalize aD ⟨#[104,101,97,100]⟩ ks=hd at *;go_wp2_with fail;obtain⟨W2,L⟩:=ex (p.alloc (.cells #[.int .i64 hd.kind,.int .i64 hd.space,.string hd.name,.slice a9 hd.attrs.length bh,.string hd.text,.slice C hd.kids.length c1] 45));have E:Below p.heap.size p W2:=by{rw[L];exact(aj _ p).alloc fX _};rw[<-L];have a4:=Z E;have R:=Z (Q.o.trans (E.mono Q.o.size));clear L E;refine(y.o W2 (Z (aa.o.below a4.o fX))).mono ?_;rintro e f ⟨⟨v3,b3,rfl,a2⟩,N⟩;obtain⟨bq,a8,c3,rfl,⟨bd,bj,rfl,_⟩,an,bs⟩:=a2.get;have S:=Z (R.o.trans (N.mono R.o.size));have ab:=Z an;clear N a2 an y aa;generalize aD ⟨#[116,105,116,108,101]⟩ hd.kids=tn at *;generalize tn.kids=l at *;have HJ:=Z (qO l);go_wp2_with fail;obtain⟨W4,r⟩:=ex (f.alloc (.cells #[.int .i64 tn.kind,.int .i64 tn.space,.string tn.name,.slice bd tn.attrs.length bj,.string tn.text,.slice a8 l.length c3] 45));have F:Below f.heap.size f W4:=by{rw[r];exact(aj _ f).alloc fX _};have av:f.heap.size+1=W4.heap.size:=by{rw[r];simp};rw[<-r,av];clear av;have a5:=Z (ab.o.below F fX);have T:=Z (S.o.trans (F.mono S.o.size));clear r F ab;go_loopw [25] (fun i wx=>∃k:Nat,i=.int .i64 k/\∃o,G (aIv l W4.heap.size k W4 wx o)) (fun i _=>l.length-(intOf i).toNat);case atStart =>refine⟨0,rfl,[],Z ⟨ax _,?_,(aj _ W4).alloc fX _,rfl⟩⟩;exact .inl ⟨ag _,.slice none 0 0,bi W4 _,World.ownsRowF_nil _ _ _ _,by simp[Value.ownBlock]⟩
 case round =>obtain⟨k,rfl,o,b⟩:=hrel;have hk:=b.o.le;rcases ak k l.length with m|bk;{obtain⟨g,off,c0,c1,c2,c3,c4,c5,rfl,h6,hn⟩:=a5.o.get l 0 k m;rw[be]at h6;obtain⟨x0,x1,x2,x3,x4,x5⟩:=h6.below b.o.bel fX;obtain⟨p1,q1,p2,q2,rfl,rfl,rfl,rfl,rfl,rfl⟩:=hn.cells;have ad:=Z (aEm l k m);have bx:o.length+l[k].text.size<=300000000+300000000:=by{have d:=qO (l.take k);have h2:aE (l.take k)<=aE l:=zF l k;have h3:=uS l k m;have h4:=cO l[k];rw[b.o.o];omega};clear hn h6;generalize l[k]=q at *;obtain⟨V,j⟩:=ex (wr.alloc (.cells #[.int .i64 q.kind,.int .i64 q.space,.string q.name,.slice p1 q.attrs.length q1,.string q.text,.slice p2 q.kids.length q2] 45));have ao:Below wr.heap.size wr V:=by{rw[j];exact(aj _ wr).alloc fX _};have J:=bR wr (.int .i64 q.kind) (.int .i64 q.space) (.string q.name) (.slice p1 q.attrs.length q1) (.string q.text) (.slice p2 q.kids.length q2);rw[<-j]at J;have X:=Z (show Lib.IsBuilderF 112 5 W4.heap.size W4.heap.size (Lib.byteCells o) V by rw[j];exact b.o.bld.alloc _);have HV:=Z j;have u:=Z (b.o.bel.trans (ao.mono b.o.bel.size));clear ao j;go_upto_region 7 with fail;rw[<-HV.o];clear x0 x1 x2 x3 x4 x5;obtain⟨x0,x1,x2,x3,x4,x5⟩:=J.zero;clear J HV;by_cases d:q.kind=2;{have e1:(q.kind==2)=true:=by{rw[d];rfl};have a6:=Z (show o++q.text.data.toList=dN (l.take (k+1)) by rw[ad.o,ae d,b.o.o]);have a7:=Z (Tryz.Builder_WriteString_k W4.heap.size W4.heap.size (Lib.byteCells o) q.text V X.o (by rw[jK];omega) u.o.size);clear d;go_wp2_with fail;refine a7.o.mono ?_;rintro e B ⟨rfl,d1,d2,D⟩;have z:=Z (show aIv l W4.heap.size (k+1) W4 B (o++q.text.data.toList)from⟨m,.inr (by rw[<-lE];exact d1),u.o.trans d2,a6.o⟩);clear d1 d2 D;go_wp2;go_roundw;(case rel=>exact⟨k+1,by go_num,_,z⟩);case measure=>simp[intOf];omega};{have e1:(q.kind==2)=false:=by{rw[ai];exact d};have z:=Z (show aIv l W4.heap.size (k+1) W4 V o from⟨m,X.o,u.o,by rw[ad.o,ac d,dc];exact b.o.o⟩);clear d;go_wp2;go_roundw;(case rel=>exact⟨k+1,by go_num,_,z⟩);case measure=>simp[intOf];omega}};{have HO:=Z (show o=dN l by rw[b.o.o,cy bk]);go_wp2_with fail;refine(Tryz.Builder_String_any_k W4.heap.size W4.heap.size o _ b.o.bld b.o.bel.size).mono ?_;rintro e B ⟨rfl,d1,d2,D⟩;have t:=Z (T.o.trans ((b.o.bel.trans d2).mono T.o.size));clear d1 d2 D;go_wp2_with fail;refine(uR ⟨o.toArray⟩ (by have:=HJ.o;rw[HO.o];simp[ByteArray.size];omega) B (HT.o.below t.o fX)).mono ?_;rintro e W6 ⟨rfl,P⟩;have a3:=Z (t.o.trans (P.mono t.o.size));clear P;go_wp2;go_ret;refine⟨?_,a3.o⟩;rw[A.o,<-HO.o];rfl}
