/-
Numerals as texts of digits, a point, an exponent: what numeral and readFloat make of them. No program in sight.
-/
import Derived.Test.YtcfgbdhpcboikaaGreatDoorShortS
namespace Go.Proofs.YtcfgbdhpcboikaaGreatDoor
def nQ (v:Nat)(c:UInt8):Nat:=if c=46 then v else v*10+(c.toNat-48)
def fI (l:U):Nat:=l.foldl nQ 0
theorem zI (l:U)(c:UInt8):fI (l++[c])=nQ (fI l) c:=by simp[fI]
theorem aLu (l:U)(h:∀c∈l,dJ c=true):(aU l).trunc=false->fI l=(aU l).mant*10^((aU l).nd-(aU l).ndM):=by
 induction l using jB with|h0=>{intro _;rfl}|h1 l c b=>{have j:∀x∈l,dJ x=true:=fun x hx=>h x (by simp[hx]);have m:dJ c=true:=h c (by simp);have b:=b j;obtain⟨n,b2,b3,b4,o⟩:=wR l j;rw[dX,zI];generalize aU l=r at *;unfold dZ nQ;by_cases d:c=46;{rw[ae d,ae d];exact b};{have hd:aI c=true:=by{simpa [dJ,d]using m};rw[ac d,ac d];by_cases f:c=48/\r.nd=0;{rw[ae f];intro e;have a:=b e;have k:r.ndM=0:=by{omega};rw[k]at b3;have m0:r.mant=0:=by{simpa using b3};rw[m0,i8]at a;show fI l*10+(c.toNat-48)=r.mant*10^(r.nd-r.ndM);rw[a,m0,f.1];simp};{rw[ac f];by_cases i:r.ndM<19;{rw[ae i];intro e;have a:=b e;show fI l*10+(c.toNat-48)=(r.mant*10+(c.toNat-48))*10^(r.nd+1-(r.ndM+1));rw[a,show r.nd-r.ndM=0 by omega,show r.nd+1-(r.ndM+1)=0 by omega];simp};{rw[ac i];intro e;have g:(r.trunc||c !=48)=false:=e;rw[th]at g;have a:=b g.1;have hc48:c=48:=by{simpa using g.2};show fI l*10+(c.toNat-48)=r.mant*10^(r.nd+1-r.ndM);rw[a,hc48,show r.nd+1-r.ndM=r.nd-r.ndM+1 by omega,bz,af];rfl}}}}
theorem oE (l:U)(h:∀c∈l,dJ c=true):l.length<=19->(aU l).trunc=false:=by
 induction l using jB with|h0=>{intro _;rfl}|h1 l c a=>{intro hlen;rw[aw]at hlen;simp only[bw,cu]at hlen;have b:∀x∈l,dJ x=true:=fun x hx=>h x (by simp[hx]);have a:=a b (by omega);obtain⟨d,b2,b3,b4,e⟩:=wR l b;rw[dX];generalize aU l=r at *;unfold dZ;split;{exact a};{split;{exact a};{rw[ae (by omega)];exact a}}}
theorem aE8 (l:U)(h:(aU l).trunc=false)(n:Nat):(aU (l++List.replicate n 48)).trunc=false:=by
 induction n with|zero=>simpa using h|succ n ih=>{rw[jl,<-ct,dX];generalize aU (l++List.replicate n 48)=r at *;unfold dZ;rw[ac (by decide)];split;{exact ih};{split;{exact ih};{show(r.trunc||(48:UInt8) !=48)=false;rw[ih];rfl}}}
theorem wB (l:U)(h:∀c∈l,aI c=true):(aU l).dot=false:=by
 induction l using jB with|h0=>rfl|h1 l c a=>{have a:=a (fun x hx=>h x (by simp[hx]));have b:=h c (by simp);have d:c≠46:=by{rintro rfl;exact absurd b (by decide)};rw[dX];generalize aU l=r at *;unfold dZ;rw[ac d];split;{exact a};{split<;>exact a}}
theorem aLt (A:U)(F:U)(h:∀c∈F,aI c=true):(aU (A++46 :: F)).dot=true/\(aU (A++46 :: F)).dp=(aU (A++46 :: F)).nd-(F.length:Int):=by
 induction F using jB with|h0=>{rw[dX];unfold dZ;rw[ae rfl];exact⟨rfl,by simp⟩}|h1 F c ih=>{obtain⟨a,e⟩:=ih (fun x hx=>h x (by simp[hx]));have b:=h c (by simp);have d:c≠46:=by{rintro rfl;exact absurd b (by decide)};rw[show A++46 :: (F++[c])=(A++46 :: F)++[c] by simp,dX];generalize aU (A++46 :: F)=r at *;unfold dZ;rw[ac d,aw];simp only[bw,cu];split;{exact⟨a,by show r.dp-1=(r.nd:Int)-_;omega⟩};{split;{exact⟨a,by show r.dp=((r.nd+1:Nat):Int)-_;omega⟩};{exact⟨a,by show r.dp=((r.nd+1:Nat):Int)-_;omega⟩}}}
theorem wW (r:RS)(c:UInt8)(h:r.dig=true\/aI c=true):(dZ r c).dig=true:=by
 unfold dZ;split;{rename_i a;rcases h with h|h;{exact h};{rw[a]at h;exact absurd h (by decide)}};{split;{rfl};{split<;>rfl}}
theorem aAu (l:U)(c:UInt8)(a:c∈l)(h:aI c=true):(aU l).dig=true:=by
 induction l using jB with|h0=>cases a|h1 l d ih=>{rw[dX];rcases de.1 a with h1|h1;{exact wW _ _ (.inl (ih h1))};{rw[fu.1 h1]at h;exact wW _ _ (.inr h)}}
structure xN (s:I) (neg:Bool) (A F:U) (dot:Bool) (X:U) (ev:Int):Prop where
  txt:s.data.toList=(if neg then [45]else [])++(A++(if dot then 46 :: F else []))++X
  digA:∀c∈A,aI c=true
  digF:∀c∈F,aI c=true
  ne:A≠[]
  F0:dot=false->F=[]
  F1:dot=true->F≠[]
  exp:(X=[]/\ev=0)\/∃(sg Dg:U) (es:Int),X=101 :: sg++Dg/\Dg≠[]/\(∀c∈Dg,aI c=true)/\((sg=[]/\es=1)\/(sg=[43]/\es=1)\/(sg=[45]/\es=-1))/\ev=(cQ Dg:Nat)*es
  len:s.size<=40
def cF (A F:U)(dot:Bool):U:=A++(if dot then 46 :: F else [])
theorem yC (l r:U)(h:∀c∈l,aI c=true)(hr:∀c,r.head?=some c->aI c=false):digs (l++r)=l.length:=by
 induction l with|nil=>{cases r with|nil=>rfl|cons c r=>{have:=hr c rfl;simp[digs,this]}}|cons c l ih=>{have a:=h c (by simp);have ih:=ih (fun x hx=>h x (by simp[hx]));have e:digs (c :: (l++r))=digs (l++r)+1:=by{simp[digs,a]};rw[dh,e,ih,bw]}
theorem aHT {s:I}{neg dot:Bool}{A F X:U}{ev:Int}(N:xN s neg A F dot X ev):∀c∈cF A F dot,dJ c=true:=by
 intro c a;unfold cF at a;rcases de.1 a with h|h;{unfold dJ;rw[N.digA c h];rfl};{cases dot;{simp at h};{rw[ae rfl]at h;rcases ce.1 h with h|h;{rw[h];rfl};{unfold dJ;rw[N.digF c h];rfl}}}
theorem aPA (a b:U)(f:b≠[])(hd:∀c∈b,aI c=true)(i:a=[]\/a=[43]\/a=[45]):pV (a++b)=true:=by
 obtain⟨c,D,rfl⟩:∃c D,b=c :: D:=by{cases b with|nil=>exact absurd rfl f|cons c D=>exact⟨c,D,rfl⟩};have d:=hd c (by simp);have g:digs (c :: D)=(c :: D).length:=by{have:=yC (c :: D) [] hd (fun c h=>by cases h);simpa using this};unfold pV;have e:(if (a++c :: D).head?=some 43\/(a++c :: D).head?=some 45 then (a++c :: D).drop 1 else a++c :: D)=c :: D:=by{rcases i with rfl|rfl|rfl;{rw[en,ac];intro h;rcases h with h|h;{have:c=43:=by{simpa using h};rw[this]at d;exact absurd d (by decide)};{have:c=45:=by{simpa using h};rw[this]at d;exact absurd d (by decide)}};{simp};{simp}};simp only[e,g];simp
theorem aIa (n:Nat)(i:n≠0)(X:U)(ev:Int)
    (exp:(X=[]/\ev=0)\/∃(b a:U) (d:Int),X=101 :: b++a/\a≠[]/\(∀c∈a,aI c=true)/\((b=[]/\d=1)\/(b=[43]/\d=1)\/(b=[45]/\d=-1))/\ev=(cQ a:Nat)*d):lJ n X=true:=by
 unfold lJ;rw[ac i];rcases exp with⟨rfl,_⟩|⟨b,a,d,rfl,e,f,g,_⟩;{rw[ae rfl]};{rw[ac (by simp),ae (by simp)];refine aPA b a e f ?_;rcases g with h|h|h;{exact .inl h.1};{exact .inr (.inl h.1)};{exact .inr (.inr h.1)}}
theorem aFR {X:U}{ev:Int}(exp:(X=[]/\ev=0)\/∃(d a:U) (b:Int),X=101 :: d++a/\a≠[]/\(∀c∈a,aI c=true)/\((d=[]/\b=1)\/(d=[43]/\b=1)\/(d=[45]/\b=-1))/\ev=(cQ a:Nat)*b) :
    X=[]\/X.head?=some 101:=by
 rcases exp with⟨rfl,_⟩|⟨d,a,b,rfl,_⟩;{exact .inl rfl};{exact .inr rfl}
theorem aPC {s:I}{neg dot:Bool}{A F X:U}{ev:Int}(N:xN s neg A F dot X ev):cW s.data.toList=true:=by
 have hlen:=N.len;rw[aY]at hlen;have d:=aFR N.exp;obtain⟨c,A',b⟩:∃c A',A=c :: A':=by{cases h:A with|nil=>exact absurd h N.ne|cons c A'=>exact⟨c,A',rfl⟩};have g:=N.digA c (by rw[b];simp);unfold cW;rw[ac (by omega),N.txt];have e:(if ((if neg then [45]else [])++(A++(if dot then 46 :: F else []))++X:U).head?=some 45 then ((if neg then [45]else [])++(A++(if dot then 46 :: F else []))++X:U).drop 1 else (if neg then [45]else [])++(A++(if dot then 46 :: F else []))++X)=A++((if dot then 46 :: F else [])++X):=by{cases neg;{simp only[f9,gc,en];rw[ac,ct];rw[b];intro h;have:c=45:=by{simpa using h};rw[this]at g;exact absurd g (by decide)};{simp}};rw[e];unfold uH;cases dot
 ·have f:=N.F0 rfl
  simp only[f9,gc,en];have hd:digs (A++X)=A.length:=yC A X N.digA (fun c h=>by
    rcases d with a|a
    · rw[a]at h;cases h
    · rw[a]at h;cases h;rfl)
  rw[hd,ig];have l:¬X.head?=some 46:=by{rcases d with a|a;{rw[a];simp};{rw[a];decide}};rw[ac l];exact aIa _ (by rw[b];simp) X ev N.exp
 ·have f:=N.F1 rfl
  simp only[fa];have hd:digs (A++(46 :: F++X))=A.length:=yC A _ N.digA (fun c h=>by cases h;rfl);rw[hd,ig,ae (by simp)];have k:digs (F++X)=F.length:=yC F X N.digF (fun c h=>by
    rcases d with a|a
    · rw[a]at h;cases h
    · rw[a]at h;cases h;rfl)
  have i:(46 :: F++X).drop 1=F++X:=rfl;have j:F.length≠0:=by{intro h;exact f (List.length_eq_zero_iff.1 h)};rw[i,k,ac j];have e3:(46 :: F++X).drop (1+F.length)=X:=by{rw[ju];show(F++X).drop F.length=X;rw[ig]};rw[e3];exact aIa _ (by omega) X ev N.exp
open Go.RowKit
theorem dT (s:I)(a b c:U)(h:s.data.toList=a++b++c)(j:Nat)(d:j<s.size)(f:a.length<=j)(g:j-a.length<b.length):s[j]=b[j-a.length]:=by
 rw[<-xW s j d];have e:s.data.toList[j]'(by rw[<-aY];exact d)=(a++b++c)[j]'(by rw[<-h,<-aY];exact d):=lj h _;rw[e,kf (by rw[aw];omega),jf f]
theorem qP (s:I)(a b c:U)(h:s.data.toList=a++b++c):aR s a.length (a.length+b.length)=b:=by
 unfold aR;rw[h,ct,ig,show a.length+b.length-a.length=b.length by omega,mu]
theorem aGt (s:I)(a b c:U)(h:s.data.toList=a++b++c)(j:Nat)(d:a.length<=j)(e:j<=a.length+b.length):aR s a.length j=b.take (j-a.length):=by
 unfold aR;rw[h,ct,ig,pe (by omega)]
theorem aEr {s:I}{neg dot:Bool}{A F X:U}{ev:Int}(N:xN s neg A F dot X ev) :
    ∃m q,zW s neg m/\oX s m q/\aCd s q ev/\aR s m q=cF A F dot/\m<s.size/\(∀h:m<s.size,s[m].toNat<=57)/\m=(if neg then 1 else 0):=by
 obtain⟨S,p⟩:∃S:U,(if neg then [45]else [])=S:=⟨_,rfl⟩;obtain⟨W,u⟩:∃W,cF A F dot=W:=⟨_,rfl⟩;have d:=N.txt;have C:=aHT N;rw[u]at C;have k:A++(if dot then 46 :: F else [])=W:=u;rw[p,k]at d;have r:s.size=S.length+W.length+X.length:=by{rw[aY,d];simp;omega};have y:1<=A.length:=by{have:=N.ne;cases h:A with|nil=>exact absurd h this|cons c A'=>simp};have V:A.length<=W.length:=by{rw[<-k];simp};have Q:S.length=(if neg then 1 else 0):=by{rw[<-p];cases neg<;>rfl};have x:∀h:S.length<s.size,aI s[S.length]=true:=by{intro h;have e:=dT s S W X d S.length h (ag _) (by omega);rw[e];have o:W[S.length-S.length]'(by omega)=A[0]'(by omega):=by{simp only[li];have:=lj k.symm (i:=0) (by omega);rw[this,kf (by omega)]};rw[o];exact N.digA _ (fl _)};have E:S.length<s.size:=by{omega};have J:=fD _ (x E);refine⟨S.length,S.length+W.length,?_,?_,?_,?_,E,fun h=>(fD _ (x h)).2,Q⟩;{refine⟨by omega,?_⟩;cases neg;{have t:S=[]:=by{rw[<-p];rfl};subst t;left;have b:=J;refine⟨rfl,rfl,?_,?_⟩;{rw[ai];have:(s[0].toNat)=s[([]:U).length].toNat:=rfl;omega};{rw[ai];have:(s[0].toNat)=s[([]:U).length].toNat:=rfl;omega}};{have t:S=[45]:=by{rw[<-p];rfl};subst t;right;have e:=dT s [] [45] (W++X) (by rw[d];simp) 0 (by omega) (ax _) (by simp);have w:s[0]'(by omega)=45:=e;refine⟨rfl,rfl,?_,?_⟩;{rw[w];decide};{rw[w];decide}}}
 ·refine⟨by omega,by omega,?_,?_,?_,?_⟩;{intro j h a h2;rw[dT s S W X d j h a (by omega)];exact C _ (fl _)};{intro j h a h2 K;rw[aGt s S W X d j a (by omega)];have e:=dT s S W X d j h a (by omega);rw[K]at e;have M:j-S.length=A.length:=by{rcases jh (j-S.length) A.length with hl|hl|hl;{exfalso;have o:W[j-S.length]'(by omega)=A[j-S.length]'hl:=by{have:=lj k.symm (i:=j-S.length) (by omega);rw[this,kf hl]};rw[o]at e;have:=N.digA _ (fl hl);rw[<-e]at this;exact absurd this (by decide)};{exact hl};{exfalso;cases dot;{have:W=A:=by{rw[<-k];simp};rw[this]at h2;omega};{have B:W=A++46 :: F:=by{rw[<-k];rfl};have hlF:j-S.length-A.length-1<F.length:=by{have:W.length=A.length+(F.length+1):=by{rw[B];simp};omega};have o:W[j-S.length]'(by omega)=F[j-S.length-A.length-1]'hlF:=by{have:=lj B (i:=j-S.length) (by omega);rw[this,jf (by omega)];rw[List.getElem_cons];rw[dif_neg (by omega)]};rw[o]at e;have:=N.digF _ (fl hlF);rw[<-e]at this;exact absurd this (by decide)}}};have e3:W.take (j-S.length)=A:=by{rw[M,<-k,mu]};rw[e3];exact wB A N.digA};{rw[qP s S W X d];obtain⟨c,A',z⟩:∃c A',A=c :: A':=by{cases h:A with|nil=>{rw[h]at y;simp at y}|cons c A'=>exact⟨c,A',rfl⟩};exact aAu W c (by rw[<-k,z];simp) (N.digA c (by rw[z];simp))}
  ·intro h;left;have l:X≠[]:=by{intro g;rw[g]at r;simp at r;omega}
   have e:=dT s (S++W) X [] (by rw[d];simp) (S.length+W.length) h (by simp) (by
     simp;exact ie.2 l)
   rw[e];rcases aFR N.exp with g|g;{exact absurd g l};{obtain⟨c,X',rfl⟩:∃c X',X=c :: X':=by{cases X with|nil=>exact absurd rfl l|cons c X'=>exact⟨c,X',rfl⟩};simp at g ⊢;exact g}
 {rcases N.exp with⟨g,a⟩|⟨f,Dg,es,l,P,D,R,L⟩;{left;rw[g]at r;simp at r;exact⟨by omega,a⟩};{right;have T:1<=Dg.length:=ie.2 P;have aa:X.length=1+f.length+Dg.length:=by{rw[l];simp;omega};have hq:S.length+W.length+1<s.size:=by{omega};have v:s.data.toList=(S++W++[101]++f)++Dg++[]:=by{rw[d,l];simp};have n:(S++W++[101]++f).length=S.length+W.length+1+f.length:=by{simp;omega};refine⟨hq,S.length+W.length+1+f.length,es,?_,by omega,?_,?_⟩;{rcases R with⟨a,h2⟩|⟨a,h2⟩|⟨a,h2⟩;{left;refine⟨by rw[a];rfl,h2,?_⟩;rw[a]at n;have:=dT s _ Dg [] v (S.length+W.length+1) hq (by rw[a,n];simp) (by rw[a,n];simp;omega);rw[this];exact D _ (fl _)};{right;left;refine⟨by rw[a];rfl,h2,?_⟩;have:=dT s (S++W++[101]) f Dg (by rw[d,l];simp) (S.length+W.length+1) hq (by simp;omega) (by rw[a];simp;omega);rw[this];simp[a]};{right;right;refine⟨by rw[a];rfl,h2,?_⟩;have:=dT s (S++W++[101]) f Dg (by rw[d,l];simp) (S.length+W.length+1) hq (by simp;omega) (by rw[a];simp;omega);rw[this];simp[a]}};{intro j h a;have:=dT s _ Dg [] v j h (by rw[n];exact a) (by rw[n];omega);rw[this];exact D _ (fl _)};{have e:aR s (S.length+W.length+1+f.length) s.size=Dg:=by{have:=qP s _ Dg [] v;rw[n,show S.length+W.length+1+f.length+Dg.length=s.size by omega]at this;exact this};rw[e];exact L}}};{rw[u];exact qP s S W X d}
theorem aGA {s:I}{neg dot:Bool}{A F X:U}{ev:Int}(N:xN s neg A F dot X ev)(w:H) :
    Y 234 #[.string s] w fun e w'=>e=.returned (.tuple #[.int .u64 (aU (cF A F dot)).mant,.int .i64 ((aU (cF A F dot)).expo ev),.bool neg,.bool (aU (cF A F dot)).trunc,.bool false,.int .i64 s.size,.bool true])/\w=w':=by
  obtain⟨f,q,a,b,c,d,_⟩:=aEr N;have:=aBW s neg f q w N.len a b ev c;rw[d]at this
  exact this
theorem aBw {s:I}{neg dot:Bool}{A F X:U}{ev:Int}(N:xN s neg A F dot X ev)(w:H) :
    Y 233 #[.string s] w fun e w'=>e=.returned (.tuple #[.float .f64 0,.int .i64 0,.bool false])/\w=w':=by
  obtain⟨m,q,⟨g,h⟩,i,j,k,c,d,l⟩:=aEr N;have f:=N.len;rcases h with⟨rfl,rfl,a,b⟩|⟨rfl,rfl,a,b⟩
  · exact sI s w g f (d c) a b
  · exact zP s w c f a b (d c)
theorem aLg {s:I}{neg dot:Bool}{A F X:U}{ev:Int}(N:xN s neg A F dot X ev):(aU (cF A F dot)).place=(aU (cF A F dot)).nd-(F.length:Int):=by
 unfold RS.place cF;cases dot;{have c:=N.F0 rfl;have e:A++(if false=true then 46 :: F else [])=A:=by{simp};rw[e,wB A N.digA,c];simp};{have e:A++(if true=true then 46 :: F else [])=A++46 :: F:=by{simp};rw[e];obtain⟨a,b⟩:=aLt A F N.digF;rw[a,ae rfl,b]}
theorem pY (n j t r:Nat):bY (bN n (j+t)) (aK (j+t)) r↔bY (bN (n*10^t) j) (aK j) r:=by
 induction t generalizing n with|zero=>simp|succ t ih=>{rw[<-lr,lO,ih,bz];have e:10*n*10^t=n*(10^t*10):=by{rw[bo 10 n,af,bo 10]};rw[e]}
theorem aBB {s:I}{neg dot:Bool}{A F X:U}{ev:Int}(N:xN s neg A F dot X ev)(V a R:Nat)(g:fI (cF A F dot)=V)(o:1<=V)(y:(a:Int)=348-F.length+ev)(d:(aU (cF A F dot)).trunc=false)
    (hr:bY (bN V a) (aK a) R) (C:3<=a) (D:a+((cF A F dot).length-19)<=658) (i:V<144115188075855872\/(348<=a/\a<=350)) (w:H) (T:aA w) :
    Y 205 #[.string s] w (O (.tuple #[.float .f64 (sgn neg+R),.int .i64 s.size,vT R]) w):=by
 have hlen:=N.len;have e:=aHT N;have RB:=wR _ e;have b:=aLu _ e d;have f:=aLg N;have c:=fun w=>aGA N w;rw[g]at b;obtain⟨r,l⟩:∃r,aU (cF A F dot)=r:=⟨_,rfl⟩;rw[l]at b f RB d c;obtain⟨p,q,t,u,v⟩:=RB;obtain⟨z,n⟩:∃z,r.nd-r.ndM=z:=⟨_,rfl⟩;rw[n]at b;have j:1<=r.mant:=by{refine kr fun h=>?_;rw[h,i8]at b;omega};have k:r.mant<18446744073709551616:=by{have:=aOt r.ndM (by omega);omega};have B:r.mant<=V:=by{rw[b];exact nr _ (b7 (by decide))};have x:(cF A F dot).length<=40:=by{have:s.data.toList.length=s.size:=(aY s).symm;rw[N.txt]at this;simp only[aw]at this;unfold cF;simp only[aw];omega};have hx:r.expo ev=((a+z:Nat):Int)-348:=by{unfold RS.expo;rw[ac (by omega),f];omega};rw[d,hx]at c;have m:bY (bN r.mant (a+z)) (aK (a+z)) R:=by{rw[pY,<-b];exact hr};refine aOF s r.mant (a+z) R neg w T j k (by omega) (by omega) ?_ m (fun w=>aBw N w) c;rcases i with h|h;{left;omega};{right;exact⟨by omega,by omega⟩}
theorem aAJ (a b:U):fI (a++b)=b.foldl nQ (fI a):=by simp[fI]
theorem aAL (a b:U):fI (a++46 :: b)=fI (a++b):=by
 rw[aAJ,aAJ,List.foldl_cons];rfl
theorem aBy (a:U)(n:Nat):fI (a++List.replicate n 48)=fI a*10^n:=by
 induction n with|zero=>simp|succ n ih=>{rw[jl,<-ct,zI,ih,bz];show fI a*10^n*10+0=_;rw[il,af]}
theorem aJK (n:Nat)(b:U):fI (List.replicate n 48++b)=fI b:=by
 induction n with|zero=>simp|succ n ih=>{rw[vn,dh];exact ih}
theorem aAK (n:Nat):fI (Lib.decDigits n)=n:=by
 induction n using Nat.strongRecOn with|_ n ih=>{rw[Lib.decDigits];split;{rename_i h;have e:(UInt8.ofNat (48+n)).toNat=48+n:=mv (by show _<256;omega);have b:UInt8.ofNat (48+n)≠46:=by{intro a;have:=az UInt8.toNat a;rw[e]at this;have c:(46:UInt8).toNat=46:=rfl;omega};show nQ 0 (UInt8.ofNat (48+n))=n;unfold nQ;rw[ac b,e];omega};{rename_i h;have e:(UInt8.ofNat (48+n%10)).toNat=48+n%10:=mv (by show _<256;omega);have b:UInt8.ofNat (48+n%10)≠46:=by{intro a;have:=az UInt8.toNat a;rw[e]at this;have c:(46:UInt8).toNat=46:=rfl;omega};rw[zI,ih (n / 10) (by omega)];unfold nQ;rw[ac b,e];omega}}
theorem vB (n:Nat)(h:n<10000):cQ (Lib.decDigits n)=n:=by
 induction n using Nat.strongRecOn with|_ n ih=>{rw[Lib.decDigits];split;{rename_i h;have e:(UInt8.ofNat (48+n)).toNat=48+n:=mv (by show _<256;omega);show fG 0 (UInt8.ofNat (48+n))=n;unfold fG;rw[ae (by omega),e];omega};{rename_i h;have e:(UInt8.ofNat (48+n%10)).toNat=48+n%10:=mv (by show _<256;omega);rw[jS,ih (n / 10) (by omega) (by omega)];unfold fG;rw[ae (by omega),e];omega}}
theorem aEw (l:U)(h:∀c∈l,dJ c=true):(aU l).nd<=19->(aU l).trunc=false:=by
 induction l using jB with|h0=>{intro _;rfl}|h1 l c b=>{have d:∀x∈l,dJ x=true:=fun x hx=>h x (by simp[hx]);have b:=b d;obtain⟨e,b2,b3,b4,f⟩:=wR l d;rw[dX];generalize aU l=r at *;unfold dZ;split;{exact b};{split;{exact b};{split;{intro a;have a:r.nd+1<=19:=a;exact b (by omega)};{intro a;have a:r.nd+1<=19:=a;omega}}}}
theorem aKZ (a b:U):(aU (a++b)).nd<=(aU a).nd+b.length:=by
 induction b using jB with|h0=>simp|h1 b c ih=>{rw[<-ct,dX,aw];generalize aU (a++b)=r at *;simp only[bw,cu];unfold dZ;split;{show r.nd<=_;omega};{split;{show r.nd<=_;omega};{split;{show r.nd+1<=_;omega};{show r.nd+1<=_;omega}}}}
theorem aPx (n:Nat):(aU ([48]++46 :: List.replicate n 48)).nd=0:=by
 induction n with|zero=>rfl|succ n ih=>{rw[jl,show [48]++46 :: (List.replicate n 48++[48])=([48]++46 :: List.replicate n 48)++[(48:UInt8)] by simp,dX];generalize aU ([48]++46 :: List.replicate n 48)=r at *;unfold dZ;rw[ac (by decide),ae ⟨rfl,ih⟩];exact ih}
theorem aMQ (x:Int)(e:-1000<x)(f:x<1000):∃(b a:U) (es:Int),(if 0<x+1 then [101,43]++Lib.itoa x else [101,45]++Lib.itoa (-x))=101 :: b++a/\a≠[]/\(∀c∈a,aI c=true)/\((b=[]/\es=1)\/(b=[43]/\es=1)\/(b=[45]/\es=-1))/\x=(cQ a:Nat)*es/\a.length<=3:=by
 have d:∀n:Nat,n<1000->(Lib.decDigits n).length<=3:=fun n g=>by{rw[eo];by_cases c1:n<10;{rw[i5 c1];omega};{rw[lw c1];by_cases c2:n / 10<10;{rw[i5 c2];omega};{rw[lw c2,i5 (by omega)];omega}}};have ne:∀n:Nat,Lib.decDigits n≠[]:=fun n h=>by{have:=eo n;rw[h]at this;have:=gf n;simp at *;omega};by_cases c:0<x+1;{rw[ae c];refine⟨[43],Lib.decDigits x.toNat,1,?_,ne _,nG _,.inr (.inl ⟨rfl,rfl⟩),?_,d _ (by omega)⟩;{unfold Lib.itoa;rw[ac (by omega)]};{rw[vB _ (by omega)];omega}};{rw[ac c];refine⟨[45],Lib.decDigits (-x).toNat,-1,?_,ne _,nG _,.inr (.inr ⟨rfl,rfl⟩),?_,d _ (by omega)⟩;{unfold Lib.itoa;rw[ac (by omega)]};{rw[vB _ (by omega)];omega}}
def wC (neg:Bool)(D:U)(x:Int):U:=(if neg then [45]else [])++aA7 D x
theorem aDI (n:Nat):∀c∈List.replicate n (48:UInt8),aI c=true:=fun c a=>by
  rw[(List.mem_replicate.1 a).2];rfl
theorem aEK (neg:Bool)(D:U)(x:Int)(k1:1<=D.length)(t:D.length<=17)(hd:∀c∈D,aI c=true)(x0:-900<x)(x1:x<900) :
    (wC neg D x).length<=25/\∃A F dot X ev,xN ⟨(wC neg D x).toArray⟩ neg A F dot X ev/\(aU (cF A F dot)).trunc=false /\
    ((fI (cF A F dot) = fI D /\ (348 : Int) - F.length + ev = 349 + x - D.length /\ ((cF A F dot).length <= 19 \/ (x < 0 /\ (cF A F dot).length <= 24))) \/
     (fI (cF A F dot) = fI D * 10 ^ (x + 1 - D.length).toNat /\ F.length = 0 /\ ev = 0 /\ (D.length : Int) <= x + 1 /\ x + 1 <= 21 /\ (cF A F dot).length <= 21)) := by
  have k:D≠[]:=fun h=>by rw[h]at k1;simp at k1
  have sl:(if neg then [45]else []:U).length<=1:=by cases neg<;>simp
  unfold wC aA7;by_cases c1:(D.length:Int)<=x+1/\x+1<=21
  · rw[ae c1]
    obtain⟨n,f⟩:∃n,(x+1-D.length).toNat=n:=⟨_,rfl⟩
    rw[f];have q:((if neg then [45]else []:U)++(D++List.replicate n 48)).length<=25:=by simp only[aw,i7];omega
    refine⟨q,D++List.replicate n 48,[],false,[],0,⟨by simp,?_,by simp,by simp[k],fun _=>rfl,(fun h=>by cases h),.inl ⟨rfl,rfl⟩,by rw[fE];omega⟩,?_,.inr ⟨?_,rfl,rfl,c1.1,c1.2,?_⟩⟩
    · intro c a
      rcases de.1 a with h|h
      · exact hd c h
      · exact aDI n c h
    · have e:cF (D++List.replicate n 48) [] false=D++List.replicate n 48:=by simp[cF]
      rw[e];exact aE8 D (oE D (fun c a=>by unfold dJ;rw[hd c a];rfl) (by omega)) n
    · have e:cF (D++List.replicate n 48) [] false=D++List.replicate n 48:=by simp[cF]
      rw[e,aBy]
    · have e:cF (D++List.replicate n 48) [] false=D++List.replicate n 48:=by simp[cF]
      rw[e];simp only[aw,i7];omega
  · rw[ac c1]
    by_cases c2:1<=x+1/\x+1<=21
    · rw[ae c2]
      obtain⟨n,f⟩:∃n,(x+1).toNat=n:=⟨_,rfl⟩
      rw[f];have s:n<D.length:=by omega
      have b:cF (D.take n) (D.drop n) true=D.take n++46 :: D.drop n:=by simp[cF]
      have d:(D.take n++46 :: D.drop n).length=D.length+1:=by simp;omega
      refine⟨by simp only[aw,br,bn,bw,cu];omega,D.take n,D.drop n,true,[],0,⟨by simp,fun c a=>hd c (ji a),fun c a=>hd c (jk a),?_,(fun h=>by cases h),fun _=>?_,.inl ⟨rfl,rfl⟩,?_⟩,?_,.inl ⟨?_,?_,.inl ?_⟩⟩
      · intro h
        have:=az List.length h;simp only[br,cu]at this;omega
      · intro h
        have:=az List.length h;simp only[bn,cu]at this;omega
      · rw[fE]
        simp only[aw,br,bn,bw,cu];omega
      · rw[b]
        refine oE _ (fun c a=>?_) (by rw[d];omega);unfold dJ;rcases de.1 a with h|h
        · rw[hd c (ji h)];rfl
        · rcases ce.1 h with h|h
          · rw[h];rfl
          · rw[hd c (jk h)];rfl
      · rw[b,aAL,jt]
      · rw[bn];omega
      · rw[b,d];omega
    · rw[ac c2]
      by_cases c3:-5<=x+1/\x+1<=0
      · rw[ae c3]
        obtain⟨n,f⟩:∃n,(-(x+1)).toNat=n:=⟨_,rfl⟩
        rw[f];have b:cF [48] (List.replicate n 48++D) true=([48]++46 :: List.replicate n 48)++D:=by simp[cF]
        have d:(([48]++46 :: List.replicate n 48)++D:U).length=n+2+D.length:=by simp;omega
        refine⟨by simp only[aw,i7,bw,cu];omega,[48],List.replicate n 48++D,true,[],0,⟨by simp,by simp;rfl,?_,by simp,(fun h=>by cases h),(fun _=>by simp[k]),.inl ⟨rfl,rfl⟩,?_⟩,?_,.inl ⟨?_,?_,.inr ⟨by omega,?_⟩⟩⟩
        · intro c a
          rcases de.1 a with h|h
          · exact aDI n c h
          · exact hd c h
        · rw[fE]
          simp only[aw,i7,bw,cu];omega
        · rw[b]
          refine aEw _ (fun c a=>?_) ?_
          · unfold dJ
            rcases de.1 a with h|h
            · rcases de.1 h with h|h
              · rw[fu.1 h];rfl
              · rcases ce.1 h with h|h
                · rw[h];rfl
                · rw[aDI n c h];rfl
            · rw[hd c h];rfl
          · have:=aKZ ([48]++46 :: List.replicate n 48) D
            rw[aPx]at this
            omega
        · rw[b,show([48]++46 :: List.replicate n 48)++D=[48]++46 :: (List.replicate n 48++D) by simp,aAL]
          have:[48]++(List.replicate n 48++D)=List.replicate (n+1) 48++D:=by rw[vn];rfl
          rw[this,aJK]
        · rw[aw,i7];omega
        · rw[b,d];omega
      · rw[ac c3]
        obtain⟨g,i,o,p,m,e3,e4,e5,r⟩:=aMQ x (by omega) (by omega);rw[p];have u:g.length<=1:=by rcases e4 with h|h|h<;>rw[h.1]<;>simp
        by_cases l:1<D.length
        · have j:cV D=D.take 1++46 :: D.drop 1:=by unfold cV;rw[ae l]
          rw[j];have b:cF (D.take 1) (D.drop 1) true=D.take 1++46 :: D.drop 1:=by simp[cF]
          have d:(D.take 1++46 :: D.drop 1).length=D.length+1:=by simp;omega
          refine⟨by simp only[aw,br,bn,bw];omega,D.take 1,D.drop 1,true,101 :: g++i,x,⟨by simp,fun c a=>hd c (ji a),fun c a=>hd c (jk a),?_,(fun h=>by cases h),fun _=>?_,.inr ⟨g,i,o,rfl,m,e3,e4,e5⟩,?_⟩,?_,.inl ⟨?_,?_,.inl ?_⟩⟩
          · intro h
            have:=az List.length h;simp only[br,cu]at this;omega
          · intro h
            have:=az List.length h;simp only[bn,cu]at this;omega
          · rw[fE]
            simp only[aw,br,bn,bw];omega
          · rw[b]
            refine oE _ (fun c a=>?_) (by rw[d];omega);unfold dJ;rcases de.1 a with h|h
            · rw[hd c (ji h)];rfl
            · rcases ce.1 h with h|h
              · rw[h];rfl
              · rw[hd c (jk h)];rfl
          · rw[b,aAL,jt]
          · rw[bn];omega
          · rw[b,d];omega
        · have j:cV D=D:=by
            unfold cV;rw[ac l,dc,cy (by omega)]
          rw[j];have b:cF D [] false=D:=by simp[cF]
          refine⟨by simp only[aw,bw];omega,D,[],false,101 :: g++i,x,⟨by simp,hd,by simp,k,fun _=>rfl,(fun h=>by cases h),.inr ⟨g,i,o,rfl,m,e3,e4,e5⟩,?_⟩,?_,.inl ⟨by rw[b],?_,.inl (by rw[b];omega)⟩⟩
          · rw[fE]
            simp only[aw,bw];omega
          · rw[b]
            exact oE _ (fun c a=>by unfold dJ;rw[hd c a];rfl) (by omega)
          · simp
            omega
open Go.RowKit
theorem aNx (s:I)(r:Nat)(w:H)(T:aA w)
    (A:∀w',aA w'->Y 205 #[.string s] w' (O (.tuple #[.float .f64 r,.int .i64 s.size,.nilIface]) w')) :
    Y 164 #[.string s,.int .i64 64] w (O (.tuple #[.float .f64 r,.int .i64 s.size,.nilIface]) w):=by
 have b:=Z A;have d:=Z T;clear A T;go_enter Tryz.func164,Tryz.ntmps164;go_wp2_with fail;refine(b.o _ d.o).mono ?_;rintro e f ⟨rfl,a⟩;have c:=Z a;clear a;go_wp2;go_ret3;exact⟨rfl,c.o⟩
theorem aRC (s:I)(r:Nat)(w:H)(T:aA w)
    (A:∀w',aA w'->Y 205 #[.string s] w' (O (.tuple #[.float .f64 r,.int .i64 s.size,.nilIface]) w')) :
    Y 119 #[.string s,.int .i64 64] w (O (.tuple #[.float .f64 r,.nilIface]) w):=by
 have b:=Z A;have d:=Z T;clear A T;go_enter Tryz.func119,Tryz.ntmps119;go_wp2_with fail;refine(aNx s r _ d.o b.o).mono ?_;rintro e f ⟨rfl,a⟩;have c:=Z a;clear a;go_wp2;go_ret2;exact⟨rfl,c.o⟩
theorem aC5 (s:I)(r:Nat)(w:H)(T:aA w)
    (A:∀w',aA w'->Y 205 #[.string s] w' (O (.tuple #[.float .f64 r,.int .i64 s.size,.nilIface]) w')) :
    Y 66 #[.string s,.int .i64 64] w (O (.tuple #[.float .f64 r,.nilIface]) w):=by
 have b:=Z A;have d:=Z T;clear A T;go_enter Tryz.func66,Tryz.ntmps66;go_wp2_with fail;refine(aRC s r _ d.o b.o).mono ?_;rintro e f ⟨rfl,a⟩;have c:=Z a;clear a;go_wp2;go_ret2;exact⟨rfl,c.o⟩
theorem aDV (s:I)(r:Nat)(w:H)(T:aA w)(d:s.size<=maxLen)(c:cW s.data.toList=true)(hi:nS r=false)
    (A:∀w',aA w'->Y 205 #[.string s] w' (O (.tuple #[.float .f64 r,.int .i64 s.size,.nilIface]) w')) :
    Y 21 #[.string s] w (O (.tuple #[.float .f64 r,.bool true]) w):=by
 have a:=fun w=>rC s w d;rw[c]at a;have f:=Z A;have i:=Z a;have h:=Z hi;have j:=Z T;clear A a c hi d T;go_enter Tryz.func21,Tryz.ntmps21;go_wp2_with (go_at_call 65;refine(i.o _).mono ?_;rintro e w' ⟨rfl,rfl⟩);refine(aC5 s r _ j.o f.o).mono ?_;rintro e k ⟨rfl,b⟩;have g:=Z b;clear b;go_wp2_with (go_at_call 67;refine(iT r false _ h.o).mono ?_;rintro e w' ⟨rfl,rfl⟩);go_ret2;exact⟨rfl,g.o⟩
theorem aIL (s:I)(r:Nat)(t:I)(w:H)(T:aA w)
    (P:∀w,aA w->Y 21 #[.string s] w (O (.tuple #[.float .f64 r,.bool true]) w))
    (Q:∀w,aA w->Y 63 #[.float .f64 r] w (O (.string t) w)) :
    Y 20 #[.string s] w (O (.tuple #[.string t,.bool true]) w):=by
 have g:=Z P;have h:=Z Q;have d:=Z T;clear P Q T;go_enter Tryz.func20,Tryz.ntmps20;go_wp2_with fail;refine(g.o _ d.o).mono ?_;rintro e j ⟨rfl,a⟩;have c:=Z a;have i:=Z (d.o.below a (ag _));clear a;go_wp2_with fail;refine(h.o _ i.o).mono ?_;rintro e k ⟨rfl,b⟩;have f:=Z (c.o.trans (b.mono c.o.size));clear b;go_wp2;go_ret2;exact⟨rfl,f.o⟩
theorem pT (d:Nat)(h:d<100000000000000000):Lib.nDigits d<=17:=by
 refine fo fun j=>?_;obtain⟨n,l⟩:∃n,Lib.nDigits d=n+18:=⟨Lib.nDigits d-18,by omega⟩;have e:∀k u,Lib.nDigits u=k+1->k≠0->10^k<=u:=by{intro k;induction k with|zero=>{intro u _ h;exact absurd rfl h}|succ k ih=>{intro u b _;by_cases c:u<10;{rw[i5 c]at b;omega};{rw[lw c]at b;by_cases a:k=0;{subst a;simp;omega};{have:=ih (u / 10) (by omega) a;rw[bz];omega}}}};have g:=e (n+17) d (by omega) (by omega);have i:10^17<=10^(n+17):=cc (by decide) (by omega);have f:(10:Nat)^17=100000000000000000:=by{decide};omega
theorem aCk (neg:Bool)(b d j:Nat)(q:Int)(i:b<aQ)(c:iI b d q j)(w:H)(T:aA w) :
    Y 21 #[.string ⟨(wC neg (dG d) ((Lib.nDigits d:Int)+q-1)).toArray⟩] w (O (.tuple #[.float .f64 (sgn neg+b),.bool true]) w):=by
 have j1:=c.idx;have j2:=c.j1;have j3:=c.j2;have n1:=gf d;have C:=pT d c.lt;obtain⟨B,s⟩:=aBF d c.pos;obtain⟨N,u⟩:∃N,Lib.nDigits d=N:=⟨_,rfl⟩;have x:=aEc d;have a:=aAK d;rw[<-x,aBy]at a;rw[u]at n1 C s a ⊢;obtain⟨k,r⟩:∃k,(dG d).length=k:=⟨_,rfl⟩;rw[r]at B s a;obtain⟨hlen,A,F,dot,X,ev,l,f,m⟩:=aEK neg (dG d) ((N:Int)+q-1) (by omega) (by omega) (aBE d) (by omega) (by omega);rw[r]at m;have J:=c.pos;have K:=c.lt;have g:=c.rn;obtain⟨v,z⟩:∃v,fI (dG d)=v:=⟨_,rfl⟩;rw[z]at a m;have v1:1<=v:=by{refine kr fun h=>?_;rw[h,i8]at a;omega};have L:v<=d:=by{rw[<-a];exact nr _ (b7 (by decide))};refine aDV _ (sgn neg+b) w T (by rw[fE];unfold maxLen;omega) (aPC l) (qL neg b i) (fun w' o=>?_);rcases m with⟨c1,c2,c3⟩|⟨c1,c2,c3,c4,c5,E⟩;{have n:bY (bN v (j+(N-k))) (aK (j+(N-k))) b:=by{rw[pY,a];exact g};rw[<-vC i];exact aBB l v (j+(N-k)) b c1 v1 (by omega) f n (by omega) (by omega) (.inl (by omega)) w' o};{obtain⟨p,y⟩:∃p,((N:Int)+q-1+1-k).toNat=p:=⟨_,rfl⟩;rw[y]at c1;have n:bY (bN (v*10^p) 348) (aK 348) b:=by{by_cases hq:0<=q;{obtain⟨t,f⟩:∃t,j=348+t:=⟨j-348,by omega⟩;rw[f,pY,<-a,af,<-ap,show N-k+t=p by omega]at g;exact g};{obtain⟨t,f⟩:∃t,348=j+t:=⟨348-j,by omega⟩;have e:bN (v*10^p) 348=bN (v*10^p) (j+t):=by{rw[<-f]};have e':aK 348=aK (j+t):=by{rw[<-f]};rw[e,e',pY,af,<-ap,show p+t=N-k by omega,a];exact g}};have D:1<=v*10^p:=cn v1 (b7 (by decide));rw[<-vC i];exact aBB l (v*10^p) 348 b c1 D (by omega) f n (by omega) (by omega) (.inr ⟨by omega,by omega⟩) w' o}
theorem aFD (neg:Bool)(b:Nat)(g:1<=b)(c:b<aQ):∃d q j,iI b d q j/\∃t:I,t=⟨(wC neg (dG d) ((Lib.nDigits d:Int)+q-1)).toArray⟩/\t.size<=25 /\
    (∀w,aA w->Y 63 #[.float .f64 (sgn neg+b:Nat)] w (O (.string t) w)) /\
    (∀w,aA w->Y 21 #[.string t] w (O (.tuple #[.float .f64 (sgn neg+b),.bool true]) w)) /\
    (∀w,aA w->Y 20 #[.string t] w (O (.tuple #[.string t,.bool true]) w)):=by
 obtain⟨d,q,j,a,h⟩:=aI4 b g c;have j1:=a.idx;have j2:=a.j1;have j3:=a.j2;have n1:=gf d;have m:=pT d a.lt;obtain⟨k,l⟩:=aBF d a.pos;have hlen:=(aEK neg (dG d) ((Lib.nDigits d:Int)+q-1) (by omega) (by omega) (aBE d) (by omega) (by omega)).1;have f:∀w,aA w->Y 63 #[.float .f64 (sgn neg+b:Nat)] w (O (.string ⟨(wC neg (dG d) ((Lib.nDigits d:Int)+q-1)).toArray⟩) w):=by{intro w T;cases neg;{have:=h w T;rw[zD];exact this};{have e:sgn true=9223372036854775808:=by{simp[sgn]};rw[e];have i:(aA7 (dG d) ((Lib.nDigits d:Int)+q-1)).length<=1000:=by{unfold wC at hlen;simp only[aw]at hlen;omega};exact aLl b _ i g c w T h}};exact⟨d,q,j,a,_,rfl,by rw[fE];exact hlen,f,fun w T=>aCk neg b d j q c a w T,fun w T=>aIL _ _ _ w T (fun w T=>aCk neg b d j q c a w T) f⟩
