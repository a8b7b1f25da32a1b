/-
Numerals as texts of digits, a point, an exponent: what numeral and readFloat make of them. No program in sight.
-/
import Derived.Test.YtcfgbdhpcboikaaGreatDoorShortS
namespace Go.Proofs.YtcfgbdhpcboikaaGreatDoor
def mI (v:Nat)(c:UInt8):Nat:=if c=46 then v else v*10+(c.toNat-48)
def eK (l:U):Nat:=l.foldl mI 0
theorem wV (l:U)(c:UInt8):eK (l++[c])=mI (eK l) c:=by simp[eK]
theorem aKs (l:U)(h:∀c∈l,cR c=true):(aO l).trunc=false->eK l=(aO l).mant*10^((aO l).nd-(aO l).ndM):=by
 induction l using gX with|h0=>{intro _;rfl}|h1 l c b=>{have j:∀x∈l,cR x=true:=fun x hx=>h x (by simp[hx]);have m:cR c=true:=h c (by simp);have b:=b j;obtain⟨n,b2,b3,b4,o⟩:=vB l j;rw[dG,wV];generalize aO l=r at *;unfold dJ mI;by_cases d:c=46;{rw[af d,af d];exact b};{have hd:aE c=true:=by{simpa [cR,d]using m};rw[ae d,ae d];by_cases f:c=48/\r.nd=0;{rw[af f];intro e;have a:=b e;have k:r.ndM=0:=by{omega};rw[k]at b3;have m0:r.mant=0:=by{simpa using b3};rw[m0,iy]at a;show eK l*10+(c.toNat-48)=r.mant*10^(r.nd-r.ndM);rw[a,m0,f.1];simp};{rw[ae f];by_cases i:r.ndM<19;{rw[af i];intro e;have a:=b e;show eK l*10+(c.toNat-48)=(r.mant*10+(c.toNat-48))*10^(r.nd+1-(r.ndM+1));rw[a,show r.nd-r.ndM=0 by omega,show r.nd+1-(r.ndM+1)=0 by omega];simp};{rw[ae i];intro e;have g:(r.trunc||c !=48)=false:=e;rw[te]at g;have a:=b g.1;have hc48:c=48:=by{simpa using g.2};show eK l*10+(c.toNat-48)=r.mant*10^(r.nd+1-r.ndM);rw[a,hc48,show r.nd+1-r.ndM=r.nd-r.ndM+1 by omega,bz,ag];rfl}}}}
theorem mV (l:U)(h:∀c∈l,cR c=true):l.length<=19->(aO l).trunc=false:=by
 induction l using gX with|h0=>{intro _;rfl}|h1 l c a=>{intro hlen;rw[ax]at hlen;simp only[bv,db]at hlen;have b:∀x∈l,cR x=true:=fun x hx=>h x (by simp[hx]);have a:=a b (by omega);obtain⟨d,b2,b3,b4,e⟩:=vB l b;rw[dG];generalize aO l=r at *;unfold dJ;split;{exact a};{split;{exact a};{rw[af (by omega)];exact a}}}
theorem aEa (l:U)(h:(aO l).trunc=false)(n:Nat):(aO (l++List.replicate n 48)).trunc=false:=by
 induction n with|zero=>simpa using h|succ n ih=>{rw[je,<-cv,dG];generalize aO (l++List.replicate n 48)=r at *;unfold dJ;rw[ae (by decide)];split;{exact ih};{split;{exact ih};{show(r.trunc||(48:UInt8) !=48)=false;rw[ih];rfl}}}
theorem uL (l:U)(h:∀c∈l,aE c=true):(aO l).dot=false:=by
 induction l using gX with|h0=>rfl|h1 l c a=>{have a:=a (fun x hx=>h x (by simp[hx]));have b:=h c (by simp);have d:c≠46:=by{rintro rfl;exact absurd b (by decide)};rw[dG];generalize aO l=r at *;unfold dJ;rw[ae d];split;{exact a};{split<;>exact a}}
theorem aKr (A:U)(F:U)(h:∀c∈F,aE c=true):(aO (A++46 :: F)).dot=true/\(aO (A++46 :: F)).dp=(aO (A++46 :: F)).nd-(F.length:Int):=by
 induction F using gX with|h0=>{rw[dG];unfold dJ;rw[af rfl];exact⟨rfl,by simp⟩}|h1 F c ih=>{obtain⟨a,e⟩:=ih (fun x hx=>h x (by simp[hx]));have b:=h c (by simp);have d:c≠46:=by{rintro rfl;exact absurd b (by decide)};rw[show A++46 :: (F++[c])=(A++46 :: F)++[c] by simp,dG];generalize aO (A++46 :: F)=r at *;unfold dJ;rw[ae d,ax];simp only[bv,db];split;{exact⟨a,by show r.dp-1=(r.nd:Int)-_;omega⟩};{split;{exact⟨a,by show r.dp=((r.nd+1:Nat):Int)-_;omega⟩};{exact⟨a,by show r.dp=((r.nd+1:Nat):Int)-_;omega⟩}}}
theorem vG (r:RS)(c:UInt8)(h:r.dig=true\/aE c=true):(dJ r c).dig=true:=by
 unfold dJ;split;{rename_i a;rcases h with h|h;{exact h};{rw[a]at h;exact absurd h (by decide)}};{split;{rfl};{split<;>rfl}}
theorem yW (l:U)(c:UInt8)(a:c∈l)(h:aE c=true):(aO l).dig=true:=by
 induction l using gX with|h0=>cases a|h1 l d ih=>{rw[dG];rcases cu.1 a with h1|h1;{exact vG _ _ (.inl (ih h1))};{rw[fh.1 h1]at h;exact vG _ _ (.inr h)}}
structure vP (s:I) (neg:Bool) (A F:U) (dot:Bool) (X:U) (ev:Int):Prop where
  txt:s.data.toList=(if neg then [45]else [])++(A++(if dot then 46 :: F else []))++X
  digA:∀c∈A,aE c=true
  digF:∀c∈F,aE c=true
  ne:A≠[]
  F0:dot=false->F=[]
  F1:dot=true->F≠[]
  exp:(X=[]/\ev=0)\/∃(sg Dg:U) (es:Int),X=101 :: sg++Dg/\Dg≠[]/\(∀c∈Dg,aE c=true)/\((sg=[]/\es=1)\/(sg=[43]/\es=1)\/(sg=[45]/\es=-1))/\ev=(bX Dg:Nat)*es
  len:s.size<=40
def bK (A F:U)(dot:Bool):U:=A++(if dot then 46 :: F else [])
theorem vZ (l r:U)(h:∀c∈l,aE c=true)(hr:∀c,r.head?=some c->aE c=false):digs (l++r)=l.length:=by
 induction l with|nil=>{cases r with|nil=>rfl|cons c r=>{have:=hr c rfl;simp[digs,this]}}|cons c l ih=>{have a:=h c (by simp);have ih:=ih (fun x hx=>h x (by simp[hx]));have e:digs (c :: (l++r))=digs (l++r)+1:=by{simp[digs,a]};rw[dw,e,ih,bv]}
theorem aGY {s:I}{neg dot:Bool}{A F X:U}{ev:Int}(N:vP s neg A F dot X ev):∀c∈bK A F dot,cR c=true:=by
 intro c a;unfold bK at a;rcases cu.1 a with h|h;{unfold cR;rw[N.digA c h];rfl};{cases dot;{simp at h};{rw[af rfl]at h;rcases b9.1 h with h|h;{rw[h];rfl};{unfold cR;rw[N.digF c h];rfl}}}
theorem aOB (a b:U)(f:b≠[])(hd:∀c∈b,aE c=true)(i:a=[]\/a=[43]\/a=[45]):oM (a++b)=true:=by
 obtain⟨c,D,rfl⟩:∃c D,b=c :: D:=by{cases b with|nil=>exact absurd rfl f|cons c D=>exact⟨c,D,rfl⟩};have d:=hd c (by simp);have g:digs (c :: D)=(c :: D).length:=by{have:=vZ (c :: D) [] hd (fun c h=>by cases h);simpa using this};unfold oM;have e:(if (a++c :: D).head?=some 43\/(a++c :: D).head?=some 45 then (a++c :: D).drop 1 else a++c :: D)=c :: D:=by{rcases i with rfl|rfl|rfl;{rw[d8,ae];intro h;rcases h with h|h;{have:c=43:=by{simpa using h};rw[this]at d;exact absurd d (by decide)};{have:c=45:=by{simpa using h};rw[this]at d;exact absurd d (by decide)}};{simp};{simp}};simp only[e,g];simp
theorem aHd (n:Nat)(i:n≠0)(X:U)(ev:Int)
    (exp:(X=[]/\ev=0)\/∃(b a:U) (d:Int),X=101 :: b++a/\a≠[]/\(∀c∈a,aE c=true)/\((b=[]/\d=1)\/(b=[43]/\d=1)\/(b=[45]/\d=-1))/\ev=(bX a:Nat)*d):jY n X=true:=by
 unfold jY;rw[ae i];rcases exp with⟨rfl,_⟩|⟨b,a,d,rfl,e,f,g,_⟩;{rw[af rfl]};{rw[ae (by simp),af (by simp)];refine aOB b a e f ?_;rcases g with h|h|h;{exact .inl h.1};{exact .inr (.inl h.1)};{exact .inr (.inr h.1)}}
theorem aEV {X:U}{ev:Int}(exp:(X=[]/\ev=0)\/∃(d a:U) (b:Int),X=101 :: d++a/\a≠[]/\(∀c∈a,aE c=true)/\((d=[]/\b=1)\/(d=[43]/\b=1)\/(d=[45]/\b=-1))/\ev=(bX a:Nat)*b) :
    X=[]\/X.head?=some 101:=by
 rcases exp with⟨rfl,_⟩|⟨d,a,b,rfl,_⟩;{exact .inl rfl};{exact .inr rfl}
theorem aOD {s:I}{neg dot:Bool}{A F X:U}{ev:Int}(N:vP s neg A F dot X ev):cH s.data.toList=true:=by
 have hlen:=N.len;rw[aS]at hlen;have d:=aEV N.exp;obtain⟨c,A',b⟩:∃c A',A=c :: A':=by{cases h:A with|nil=>exact absurd h N.ne|cons c A'=>exact⟨c,A',rfl⟩};have g:=N.digA c (by rw[b];simp);unfold cH;rw[ae (by omega),N.txt];have e:(if ((if neg then [45]else [])++(A++(if dot then 46 :: F else []))++X:U).head?=some 45 then ((if neg then [45]else [])++(A++(if dot then 46 :: F else []))++X:U).drop 1 else (if neg then [45]else [])++(A++(if dot then 46 :: F else []))++X)=A++((if dot then 46 :: F else [])++X):=by{cases neg;{simp only[fw,fy,d8];rw[ae,cv];rw[b];intro h;have:c=45:=by{simpa using h};rw[this]at g;exact absurd g (by decide)};{simp}};rw[e];unfold sP;cases dot
 ·have f:=N.F0 rfl
  simp only[fw,fy,d8];have hd:digs (A++X)=A.length:=vZ A X N.digA (fun c h=>by
    rcases d with a|a
    · rw[a]at h;cases h
    · rw[a]at h;cases h;rfl)
  rw[hd,gy];have l:¬X.head?=some 46:=by{rcases d with a|a;{rw[a];simp};{rw[a];decide}};rw[ae l];exact aHd _ (by rw[b];simp) X ev N.exp
 ·have f:=N.F1 rfl
  simp only[ed];have hd:digs (A++(46 :: F++X))=A.length:=vZ A _ N.digA (fun c h=>by cases h;rfl);rw[hd,gy,af (by simp)];have k:digs (F++X)=F.length:=vZ F X N.digF (fun c h=>by
    rcases d with a|a
    · rw[a]at h;cases h
    · rw[a]at h;cases h;rfl)
  have i:(46 :: F++X).drop 1=F++X:=rfl;have j:F.length≠0:=by{intro h;exact f (List.length_eq_zero_iff.1 h)};rw[i,k,ae j];have e3:(46 :: F++X).drop (1+F.length)=X:=by{rw[ki];show(F++X).drop F.length=X;rw[gy]};rw[e3];exact aHd _ (by omega) X ev N.exp
open Go.RowKit
theorem cZ (s:I)(a b c:U)(h:s.data.toList=a++b++c)(j:Nat)(d:j<s.size)(f:a.length<=j)(g:j-a.length<b.length):s[j]=b[j-a.length]:=by
 rw[<-vU s j d];have e:s.data.toList[j]'(by rw[<-aS];exact d)=(a++b++c)[j]'(by rw[<-h,<-aS];exact d):=ky h _;rw[e,kw (by rw[ax];omega),jm f]
theorem pF (s:I)(a b c:U)(h:s.data.toList=a++b++c):aM s a.length (a.length+b.length)=b:=by
 unfold aM;rw[h,cv,gy,show a.length+b.length-a.length=b.length by omega,mh]
theorem aFy (s:I)(a b c:U)(h:s.data.toList=a++b++c)(j:Nat)(d:a.length<=j)(e:j<=a.length+b.length):aM s a.length j=b.take (j-a.length):=by
 unfold aM;rw[h,cv,gy,ou (by omega)]
theorem aDt {s:I}{neg dot:Bool}{A F X:U}{ev:Int}(N:vP s neg A F dot X ev) :
    ∃m q,xU s neg m/\nP s m q/\aBs s q ev/\aM s m q=bK A F dot/\m<s.size/\(∀h:m<s.size,s[m].toNat<=57)/\m=(if neg then 1 else 0):=by
 obtain⟨S,p⟩:∃S:U,(if neg then [45]else [])=S:=⟨_,rfl⟩;obtain⟨W,u⟩:∃W,bK A F dot=W:=⟨_,rfl⟩;have d:=N.txt;have C:=aGY N;rw[u]at C;have k:A++(if dot then 46 :: F else [])=W:=u;rw[p,k]at d;have r:s.size=S.length+W.length+X.length:=by{rw[aS,d];simp;omega};have y:1<=A.length:=by{have:=N.ne;cases h:A with|nil=>exact absurd h this|cons c A'=>simp};have V:A.length<=W.length:=by{rw[<-k];simp};have Q:S.length=(if neg then 1 else 0):=by{rw[<-p];cases neg<;>rfl};have x:∀h:S.length<s.size,aE s[S.length]=true:=by{intro h;have e:=cZ s S W X d S.length h (ah _) (by omega);rw[e];have o:W[S.length-S.length]'(by omega)=A[0]'(by omega):=by{simp only[kx];have:=ky k.symm (i:=0) (by omega);rw[this,kw (by omega)]};rw[o];exact N.digA _ (dz _)};have E:S.length<s.size:=by{omega};have J:=eE _ (x E);refine⟨S.length,S.length+W.length,?_,?_,?_,?_,E,fun h=>(eE _ (x h)).2,Q⟩;{refine⟨by omega,?_⟩;cases neg;{have t:S=[]:=by{rw[<-p];rfl};subst t;left;have b:=J;refine⟨rfl,rfl,?_,?_⟩;{rw[ai];have:(s[0].toNat)=s[([]:U).length].toNat:=rfl;omega};{rw[ai];have:(s[0].toNat)=s[([]:U).length].toNat:=rfl;omega}};{have t:S=[45]:=by{rw[<-p];rfl};subst t;right;have e:=cZ s [] [45] (W++X) (by rw[d];simp) 0 (by omega) (bb _) (by simp);have w:s[0]'(by omega)=45:=e;refine⟨rfl,rfl,?_,?_⟩;{rw[w];decide};{rw[w];decide}}}
 ·refine⟨by omega,by omega,?_,?_,?_,?_⟩;{intro j h a h2;rw[cZ s S W X d j h a (by omega)];exact C _ (dz _)};{intro j h a h2 K;rw[aFy s S W X d j a (by omega)];have e:=cZ s S W X d j h a (by omega);rw[K]at e;have M:j-S.length=A.length:=by{rcases i8 (j-S.length) A.length with hl|hl|hl;{exfalso;have o:W[j-S.length]'(by omega)=A[j-S.length]'hl:=by{have:=ky k.symm (i:=j-S.length) (by omega);rw[this,kw hl]};rw[o]at e;have:=N.digA _ (dz hl);rw[<-e]at this;exact absurd this (by decide)};{exact hl};{exfalso;cases dot;{have:W=A:=by{rw[<-k];simp};rw[this]at h2;omega};{have B:W=A++46 :: F:=by{rw[<-k];rfl};have hlF:j-S.length-A.length-1<F.length:=by{have:W.length=A.length+(F.length+1):=by{rw[B];simp};omega};have o:W[j-S.length]'(by omega)=F[j-S.length-A.length-1]'hlF:=by{have:=ky B (i:=j-S.length) (by omega);rw[this,jm (by omega)];rw[List.getElem_cons];rw[dif_neg (by omega)]};rw[o]at e;have:=N.digF _ (dz hlF);rw[<-e]at this;exact absurd this (by decide)}}};have e3:W.take (j-S.length)=A:=by{rw[M,<-k,mh]};rw[e3];exact uL A N.digA};{rw[pF s S W X d];obtain⟨c,A',z⟩:∃c A',A=c :: A':=by{cases h:A with|nil=>{rw[h]at y;simp at y}|cons c A'=>exact⟨c,A',rfl⟩};exact yW W c (by rw[<-k,z];simp) (N.digA c (by rw[z];simp))}
  ·intro h;left;have l:X≠[]:=by{intro g;rw[g]at r;simp at r;omega}
   have e:=cZ s (S++W) X [] (by rw[d];simp) (S.length+W.length) h (by simp) (by
     simp;exact g7.2 l)
   rw[e];rcases aEV N.exp with g|g;{exact absurd g l};{obtain⟨c,X',rfl⟩:∃c X',X=c :: X':=by{cases X with|nil=>exact absurd rfl l|cons c X'=>exact⟨c,X',rfl⟩};simp at g ⊢;exact g}
 {rcases N.exp with⟨g,a⟩|⟨f,Dg,es,l,P,D,R,L⟩;{left;rw[g]at r;simp at r;exact⟨by omega,a⟩};{right;have T:1<=Dg.length:=g7.2 P;have aa:X.length=1+f.length+Dg.length:=by{rw[l];simp;omega};have hq:S.length+W.length+1<s.size:=by{omega};have v:s.data.toList=(S++W++[101]++f)++Dg++[]:=by{rw[d,l];simp};have n:(S++W++[101]++f).length=S.length+W.length+1+f.length:=by{simp;omega};refine⟨hq,S.length+W.length+1+f.length,es,?_,by omega,?_,?_⟩;{rcases R with⟨a,h2⟩|⟨a,h2⟩|⟨a,h2⟩;{left;refine⟨by rw[a];rfl,h2,?_⟩;rw[a]at n;have:=cZ s _ Dg [] v (S.length+W.length+1) hq (by rw[a,n];simp) (by rw[a,n];simp;omega);rw[this];exact D _ (dz _)};{right;left;refine⟨by rw[a];rfl,h2,?_⟩;have:=cZ s (S++W++[101]) f Dg (by rw[d,l];simp) (S.length+W.length+1) hq (by simp;omega) (by rw[a];simp;omega);rw[this];simp[a]};{right;right;refine⟨by rw[a];rfl,h2,?_⟩;have:=cZ s (S++W++[101]) f Dg (by rw[d,l];simp) (S.length+W.length+1) hq (by simp;omega) (by rw[a];simp;omega);rw[this];simp[a]}};{intro j h a;have:=cZ s _ Dg [] v j h (by rw[n];exact a) (by rw[n];omega);rw[this];exact D _ (dz _)};{have e:aM s (S.length+W.length+1+f.length) s.size=Dg:=by{have:=pF s _ Dg [] v;rw[n,show S.length+W.length+1+f.length+Dg.length=s.size by omega]at this;exact this};rw[e];exact L}}};{rw[u];exact pF s S W X d}
theorem aFF {s:I}{neg dot:Bool}{A F X:U}{ev:Int}(N:vP s neg A F dot X ev)(w:H) :
    Y 234 #[.string s] w fun e w'=>e=.returned (.tuple #[.int .u64 (aO (bK A F dot)).mant,.int .i64 ((aO (bK A F dot)).expo ev),.bool neg,.bool (aO (bK A F dot)).trunc,.bool false,.int .i64 s.size,.bool true])/\w=w':=by
  obtain⟨f,q,a,b,c,d,_⟩:=aDt N;have:=aBa s neg f q w N.len a b ev c;rw[d]at this
  exact this
theorem aAK {s:I}{neg dot:Bool}{A F X:U}{ev:Int}(N:vP s neg A F dot X ev)(w:H) :
    Y 233 #[.string s] w fun e w'=>e=.returned (.tuple #[.float .f64 0,.int .i64 0,.bool false])/\w=w':=by
  obtain⟨m,q,⟨g,h⟩,i,j,k,c,d,l⟩:=aDt N;have f:=N.len;rcases h with⟨rfl,rfl,a,b⟩|⟨rfl,rfl,a,b⟩
  · exact qQ s w g f (d c) a b
  · exact xF s w c f a b (d c)
theorem aKe {s:I}{neg dot:Bool}{A F X:U}{ev:Int}(N:vP s neg A F dot X ev):(aO (bK A F dot)).place=(aO (bK A F dot)).nd-(F.length:Int):=by
 unfold RS.place bK;cases dot;{have c:=N.F0 rfl;have e:A++(if false=true then 46 :: F else [])=A:=by{simp};rw[e,uL A N.digA,c];simp};{have e:A++(if true=true then 46 :: F else [])=A++46 :: F:=by{simp};rw[e];obtain⟨a,b⟩:=aKr A F N.digF;rw[a,af rfl,b]}
theorem oP (n j t r:Nat):bI (bC n (j+t)) (aG (j+t)) r↔bI (bC (n*10^t) j) (aG j) r:=by
 induction t generalizing n with|zero=>simp|succ t ih=>{rw[<-jg,kE,ih,bz];have e:10*n*10^t=n*(10^t*10):=by{rw[bn 10 n,ag,bn 10]};rw[e]}
theorem aAP {s:I}{neg dot:Bool}{A F X:U}{ev:Int}(N:vP s neg A F dot X ev)(V a R:Nat)(g:eK (bK A F dot)=V)(o:1<=V)(y:(a:Int)=348-F.length+ev)(d:(aO (bK A F dot)).trunc=false)
    (hr:bI (bC V a) (aG a) R) (C:3<=a) (D:a+((bK A F dot).length-19)<=658) (i:V<144115188075855872\/(348<=a/\a<=350)) (w:H) (T:aA w) :
    Y 205 #[.string s] w (O (.tuple #[.float .f64 (sgn neg+R),.int .i64 s.size,uD R]) w):=by
 have hlen:=N.len;have e:=aGY N;have RB:=vB _ e;have b:=aKs _ e d;have f:=aKe N;have c:=fun w=>aFF N w;rw[g]at b;obtain⟨r,l⟩:∃r,aO (bK A F dot)=r:=⟨_,rfl⟩;rw[l]at b f RB d c;obtain⟨p,q,t,u,v⟩:=RB;obtain⟨z,n⟩:∃z,r.nd-r.ndM=z:=⟨_,rfl⟩;rw[n]at b;have j:1<=r.mant:=by{refine jv fun h=>?_;rw[h,iy]at b;omega};have k:r.mant<18446744073709551616:=by{have:=aNs r.ndM (by omega);omega};have B:r.mant<=V:=by{rw[b];exact nh _ (b7 (by decide))};have x:(bK A F dot).length<=40:=by{have:s.data.toList.length=s.size:=(aS s).symm;rw[N.txt]at this;simp only[ax]at this;unfold bK;simp only[ax];omega};have hx:r.expo ev=((a+z:Nat):Int)-348:=by{unfold RS.expo;rw[ae (by omega),f];omega};rw[d,hx]at c;have m:bI (bC r.mant (a+z)) (aG (a+z)) R:=by{rw[oP,<-b];exact hr};refine aNE s r.mant (a+z) R neg w T j k (by omega) (by omega) ?_ m (fun w=>aAK N w) c;rcases i with h|h;{left;omega};{right;exact⟨by omega,by omega⟩}
theorem zP (a b:U):eK (a++b)=b.foldl mI (eK a):=by simp[eK]
theorem zR (a b:U):eK (a++46 :: b)=eK (a++b):=by
 rw[zP,zP,List.foldl_cons];rfl
theorem aAM (a:U)(n:Nat):eK (a++List.replicate n 48)=eK a*10^n:=by
 induction n with|zero=>simp|succ n ih=>{rw[je,<-cv,wV,ih,bz];show eK a*10^n*10+0=_;rw[gw,ag]}
theorem aIK (n:Nat)(b:U):eK (List.replicate n 48++b)=eK b:=by
 induction n with|zero=>simp|succ n ih=>{rw[vi,dw];exact ih}
theorem zQ (n:Nat):eK (Lib.decDigits n)=n:=by
 induction n using Nat.strongRecOn with|_ n ih=>{rw[Lib.decDigits];split;{rename_i h;have e:(UInt8.ofNat (48+n)).toNat=48+n:=mi (by show _<256;omega);have b:UInt8.ofNat (48+n)≠46:=by{intro a;have:=az UInt8.toNat a;rw[e]at this;have c:(46:UInt8).toNat=46:=rfl;omega};show mI 0 (UInt8.ofNat (48+n))=n;unfold mI;rw[ae b,e];omega};{rename_i h;have e:(UInt8.ofNat (48+n%10)).toNat=48+n%10:=mi (by show _<256;omega);have b:UInt8.ofNat (48+n%10)≠46:=by{intro a;have:=az UInt8.toNat a;rw[e]at this;have c:(46:UInt8).toNat=46:=rfl;omega};rw[wV,ih (n / 10) (by omega)];unfold mI;rw[ae b,e];omega}}
theorem tI (n:Nat)(h:n<10000):bX (Lib.decDigits n)=n:=by
 induction n using Nat.strongRecOn with|_ n ih=>{rw[Lib.decDigits];split;{rename_i h;have e:(UInt8.ofNat (48+n)).toNat=48+n:=mi (by show _<256;omega);show eI 0 (UInt8.ofNat (48+n))=n;unfold eI;rw[af (by omega),e];omega};{rename_i h;have e:(UInt8.ofNat (48+n%10)).toNat=48+n%10:=mi (by show _<256;omega);rw[iN,ih (n / 10) (by omega) (by omega)];unfold eI;rw[af (by omega),e];omega}}
theorem aDy (l:U)(h:∀c∈l,cR c=true):(aO l).nd<=19->(aO l).trunc=false:=by
 induction l using gX with|h0=>{intro _;rfl}|h1 l c b=>{have d:∀x∈l,cR x=true:=fun x hx=>h x (by simp[hx]);have b:=b d;obtain⟨e,b2,b3,b4,f⟩:=vB l d;rw[dG];generalize aO l=r at *;unfold dJ;split;{exact b};{split;{exact b};{split;{intro a;have a:r.nd+1<=19:=a;exact b (by omega)};{intro a;have a:r.nd+1<=19:=a;omega}}}}
theorem aJX (a b:U):(aO (a++b)).nd<=(aO a).nd+b.length:=by
 induction b using gX with|h0=>simp|h1 b c ih=>{rw[<-cv,dG,ax];generalize aO (a++b)=r at *;simp only[bv,db];unfold dJ;split;{show r.nd<=_;omega};{split;{show r.nd<=_;omega};{split;{show r.nd+1<=_;omega};{show r.nd+1<=_;omega}}}}
theorem aOx (n:Nat):(aO ([48]++46 :: List.replicate n 48)).nd=0:=by
 induction n with|zero=>rfl|succ n ih=>{rw[je,show [48]++46 :: (List.replicate n 48++[48])=([48]++46 :: List.replicate n 48)++[(48:UInt8)] by simp,dG];generalize aO ([48]++46 :: List.replicate n 48)=r at *;unfold dJ;rw[ae (by decide),af ⟨rfl,ih⟩];exact ih}
theorem aLQ (x:Int)(g:-1000<x)(i:x<1000):∃(b a:U) (es:Int),(if 0<x+1 then [101,43]++Lib.itoa x else [101,45]++Lib.itoa (-x))=101 :: b++a/\a≠[]/\(∀c∈a,aE c=true)/\((b=[]/\es=1)\/(b=[43]/\es=1)\/(b=[45]/\es=-1))/\x=(bX a:Nat)*es/\a.length<=3:=by
 have f:∀n:Nat,n<1000->(Lib.decDigits n).length<=3:=fun n j=>by{rw[dv];by_cases d:n<10;{rw[ip d];omega};{rw[lc d];by_cases e:n / 10<10;{rw[ip e];omega};{rw[lc e,ip (by omega)];omega}}};have ne:∀n:Nat,Lib.decDigits n≠[]:=fun n h=>by{have:=dv n;rw[h]at this;have:=f7 n;simp at *;omega};by_cases c:0<x+1;{rw[af c];refine⟨[43],Lib.decDigits x.toNat,1,?_,ne _,mA _,.inr (.inl ⟨rfl,rfl⟩),?_,f _ (by omega)⟩;{unfold Lib.itoa;rw[ae (by omega)]};{rw[tI _ (by omega)];omega}};{rw[ae c];refine⟨[45],Lib.decDigits (-x).toNat,-1,?_,ne _,mA _,.inr (.inr ⟨rfl,rfl⟩),?_,f _ (by omega)⟩;{unfold Lib.itoa;rw[ae (by omega)]};{rw[tI _ (by omega)];omega}}
def uM (neg:Bool)(D:U)(x:Int):U:=(if neg then [45]else [])++aAk D x
theorem aCM (n:Nat):∀c∈List.replicate n (48:UInt8),aE c=true:=fun c a=>by
  rw[(List.mem_replicate.1 a).2];rfl
theorem aDL (neg:Bool)(D:U)(x:Int)(k1:1<=D.length)(w:D.length<=17)(hd:∀c∈D,aE c=true)(x0:-900<x)(x1:x<900) :
    (uM neg D x).length<=25/\∃A F dot X ev,vP ⟨(uM neg D x).toArray⟩ neg A F dot X ev/\(aO (bK A F dot)).trunc=false /\
    ((eK (bK A F dot) = eK D /\ (348 : Int) - F.length + ev = 349 + x - D.length /\ ((bK A F dot).length <= 19 \/ (x < 0 /\ (bK A F dot).length <= 24))) \/
     (eK (bK A F dot) = eK D * 10 ^ (x + 1 - D.length).toNat /\ F.length = 0 /\ ev = 0 /\ (D.length : Int) <= x + 1 /\ x + 1 <= 21 /\ (bK A F dot).length <= 21)) := by
  have l:D≠[]:=fun h=>by rw[h]at k1;simp at k1
  have sl:(if neg then [45]else []:U).length<=1:=by cases neg<;>simp
  unfold uM aAk;by_cases j:(D.length:Int)<=x+1/\x+1<=21
  · rw[af j]
    obtain⟨n,f⟩:∃n,(x+1-D.length).toNat=n:=⟨_,rfl⟩
    rw[f];have t:((if neg then [45]else []:U)++(D++List.replicate n 48)).length<=25:=by simp only[ax,ix];omega
    refine⟨t,D++List.replicate n 48,[],false,[],0,⟨by simp,?_,by simp,by simp[l],fun _=>rfl,(fun h=>by cases h),.inl ⟨rfl,rfl⟩,by rw[eG];omega⟩,?_,.inr ⟨?_,rfl,rfl,j.1,j.2,?_⟩⟩
    · intro c a
      rcases cu.1 a with h|h
      · exact hd c h
      · exact aCM n c h
    · have e:bK (D++List.replicate n 48) [] false=D++List.replicate n 48:=by simp[bK]
      rw[e];exact aEa D (mV D (fun c a=>by unfold cR;rw[hd c a];rfl) (by omega)) n
    · have e:bK (D++List.replicate n 48) [] false=D++List.replicate n 48:=by simp[bK]
      rw[e,aAM]
    · have e:bK (D++List.replicate n 48) [] false=D++List.replicate n 48:=by simp[bK]
      rw[e];simp only[ax,ix];omega
  · rw[ae j]
    by_cases m:1<=x+1/\x+1<=21
    · rw[af m]
      obtain⟨n,f⟩:∃n,(x+1).toNat=n:=⟨_,rfl⟩
      rw[f];have v:n<D.length:=by omega
      have b:bK (D.take n) (D.drop n) true=D.take n++46 :: D.drop n:=by simp[bK]
      have d:(D.take n++46 :: D.drop n).length=D.length+1:=by simp;omega
      refine⟨by simp only[ax,bu,bm,bv,db];omega,D.take n,D.drop n,true,[],0,⟨by simp,fun c a=>hd c (ja a),fun c a=>hd c (jd a),?_,(fun h=>by cases h),fun _=>?_,.inl ⟨rfl,rfl⟩,?_⟩,?_,.inl ⟨?_,?_,.inl ?_⟩⟩
      · intro h
        have:=az List.length h;simp only[bu,db]at this;omega
      · intro h
        have:=az List.length h;simp only[bm,db]at this;omega
      · rw[eG]
        simp only[ax,bu,bm,bv,db];omega
      · rw[b]
        refine mV _ (fun c a=>?_) (by rw[d];omega);unfold cR;rcases cu.1 a with h|h
        · rw[hd c (ja h)];rfl
        · rcases b9.1 h with h|h
          · rw[h];rfl
          · rw[hd c (jd h)];rfl
      · rw[b,zR,lv]
      · rw[bm];omega
      · rw[b,d];omega
    · rw[ae m]
      by_cases o:-5<=x+1/\x+1<=0
      · rw[af o]
        obtain⟨n,f⟩:∃n,(-(x+1)).toNat=n:=⟨_,rfl⟩
        rw[f];have b:bK [48] (List.replicate n 48++D) true=([48]++46 :: List.replicate n 48)++D:=by simp[bK]
        have d:(([48]++46 :: List.replicate n 48)++D:U).length=n+2+D.length:=by simp;omega
        refine⟨by simp only[ax,ix,bv,db];omega,[48],List.replicate n 48++D,true,[],0,⟨by simp,by simp;rfl,?_,by simp,(fun h=>by cases h),(fun _=>by simp[l]),.inl ⟨rfl,rfl⟩,?_⟩,?_,.inl ⟨?_,?_,.inr ⟨by omega,?_⟩⟩⟩
        · intro c a
          rcases cu.1 a with h|h
          · exact aCM n c h
          · exact hd c h
        · rw[eG]
          simp only[ax,ix,bv,db];omega
        · rw[b]
          refine aDy _ (fun c a=>?_) ?_
          · unfold cR
            rcases cu.1 a with h|h
            · rcases cu.1 h with h|h
              · rw[fh.1 h];rfl
              · rcases b9.1 h with h|h
                · rw[h];rfl
                · rw[aCM n c h];rfl
            · rw[hd c h];rfl
          · have:=aJX ([48]++46 :: List.replicate n 48) D
            rw[aOx]at this
            omega
        · rw[b,show([48]++46 :: List.replicate n 48)++D=[48]++46 :: (List.replicate n 48++D) by simp,zR]
          have:[48]++(List.replicate n 48++D)=List.replicate (n+1) 48++D:=by rw[vi];rfl
          rw[this,aIK]
        · rw[ax,ix];omega
        · rw[b,d];omega
      · rw[ae o]
        obtain⟨g,i,r,s,q,e3,e4,e5,u⟩:=aLQ x (by omega) (by omega);rw[s];have y:g.length<=1:=by rcases e4 with h|h|h<;>rw[h.1]<;>simp
        by_cases p:1<D.length
        · have k:cG D=D.take 1++46 :: D.drop 1:=by unfold cG;rw[af p]
          rw[k];have b:bK (D.take 1) (D.drop 1) true=D.take 1++46 :: D.drop 1:=by simp[bK]
          have d:(D.take 1++46 :: D.drop 1).length=D.length+1:=by simp;omega
          refine⟨by simp only[ax,bu,bm,bv];omega,D.take 1,D.drop 1,true,101 :: g++i,x,⟨by simp,fun c a=>hd c (ja a),fun c a=>hd c (jd a),?_,(fun h=>by cases h),fun _=>?_,.inr ⟨g,i,r,rfl,q,e3,e4,e5⟩,?_⟩,?_,.inl ⟨?_,?_,.inl ?_⟩⟩
          · intro h
            have:=az List.length h;simp only[bu,db]at this;omega
          · intro h
            have:=az List.length h;simp only[bm,db]at this;omega
          · rw[eG]
            simp only[ax,bu,bm,bv];omega
          · rw[b]
            refine mV _ (fun c a=>?_) (by rw[d];omega);unfold cR;rcases cu.1 a with h|h
            · rw[hd c (ja h)];rfl
            · rcases b9.1 h with h|h
              · rw[h];rfl
              · rw[hd c (jd h)];rfl
          · rw[b,zR,lv]
          · rw[bm];omega
          · rw[b,d];omega
        · have k:cG D=D:=by
            unfold cG;rw[ae p,eh,fi (by omega)]
          rw[k];have b:bK D [] false=D:=by simp[bK]
          refine⟨by simp only[ax,bv];omega,D,[],false,101 :: g++i,x,⟨by simp,hd,by simp,l,fun _=>rfl,(fun h=>by cases h),.inr ⟨g,i,r,rfl,q,e3,e4,e5⟩,?_⟩,?_,.inl ⟨by rw[b],?_,.inl (by rw[b];omega)⟩⟩
          · rw[eG]
            simp only[ax,bv];omega
          · rw[b]
            exact mV _ (fun c a=>by unfold cR;rw[hd c a];rfl) (by omega)
          · simp
            omega
open Go.RowKit
theorem aMx (s:I)(r:Nat)(w:H)(T:aA w)
    (A:∀w',aA w'->Y 205 #[.string s] w' (O (.tuple #[.float .f64 r,.int .i64 s.size,.nilIface]) w')) :
    Y 164 #[.string s,.int .i64 64] w (O (.tuple #[.float .f64 r,.int .i64 s.size,.nilIface]) w):=by
 have b:=Z A;have d:=Z T;clear A T;go_enter Tryz.func164,Tryz.ntmps164;go_wp2_with fail;refine(b.o _ d.o).mono ?_;rintro e f ⟨rfl,a⟩;have c:=Z a;clear a;go_wp2;go_ret3;exact⟨rfl,c.o⟩
theorem aQD (s:I)(r:Nat)(w:H)(T:aA w)
    (A:∀w',aA w'->Y 205 #[.string s] w' (O (.tuple #[.float .f64 r,.int .i64 s.size,.nilIface]) w')) :
    Y 119 #[.string s,.int .i64 64] w (O (.tuple #[.float .f64 r,.nilIface]) w):=by
 have b:=Z A;have d:=Z T;clear A T;go_enter Tryz.func119,Tryz.ntmps119;go_wp2_with fail;refine(aMx s r _ d.o b.o).mono ?_;rintro e f ⟨rfl,a⟩;have c:=Z a;clear a;go_wp2;go_ret2;exact⟨rfl,c.o⟩
theorem aCb (s:I)(r:Nat)(w:H)(T:aA w)
    (A:∀w',aA w'->Y 205 #[.string s] w' (O (.tuple #[.float .f64 r,.int .i64 s.size,.nilIface]) w')) :
    Y 66 #[.string s,.int .i64 64] w (O (.tuple #[.float .f64 r,.nilIface]) w):=by
 have b:=Z A;have d:=Z T;clear A T;go_enter Tryz.func66,Tryz.ntmps66;go_wp2_with fail;refine(aQD s r _ d.o b.o).mono ?_;rintro e f ⟨rfl,a⟩;have c:=Z a;clear a;go_wp2;go_ret2;exact⟨rfl,c.o⟩
theorem aCZ (s:I)(r:Nat)(w:H)(T:aA w)(d:s.size<=maxLen)(c:cH s.data.toList=true)(hi:mK r=false)
    (A:∀w',aA w'->Y 205 #[.string s] w' (O (.tuple #[.float .f64 r,.int .i64 s.size,.nilIface]) w')) :
    Y 21 #[.string s] w (O (.tuple #[.float .f64 r,.bool true]) w):=by
 have a:=fun w=>pS s w d;rw[c]at a;have f:=Z A;have i:=Z a;have h:=Z hi;have j:=Z T;clear A a c hi d T;go_enter Tryz.func21,Tryz.ntmps21;go_wp2_with (go_at_call 65;refine(i.o _).mono ?_;rintro e w' ⟨rfl,rfl⟩);refine(aCb s r _ j.o f.o).mono ?_;rintro e k ⟨rfl,b⟩;have g:=Z b;clear b;go_wp2_with (go_at_call 67;refine(gQ r false _ h.o).mono ?_;rintro e w' ⟨rfl,rfl⟩);go_ret2;exact⟨rfl,g.o⟩
theorem aHO (s:I)(r:Nat)(t:I)(w:H)(T:aA w)
    (P:∀w,aA w->Y 21 #[.string s] w (O (.tuple #[.float .f64 r,.bool true]) w))
    (Q:∀w,aA w->Y 63 #[.float .f64 r] w (O (.string t) w)) :
    Y 20 #[.string s] w (O (.tuple #[.string t,.bool true]) w):=by
 have g:=Z P;have h:=Z Q;have d:=Z T;clear P Q T;go_enter Tryz.func20,Tryz.ntmps20;go_wp2_with fail;refine(g.o _ d.o).mono ?_;rintro e j ⟨rfl,a⟩;have c:=Z a;have i:=Z (d.o.below a (ah _));clear a;go_wp2_with fail;refine(h.o _ i.o).mono ?_;rintro e k ⟨rfl,b⟩;have f:=Z (c.o.trans (b.mono c.o.size));clear b;go_wp2;go_ret2;exact⟨rfl,f.o⟩
theorem oL (d:Nat)(h:d<100000000000000000):Lib.nDigits d<=17:=by
 refine ff fun j=>?_;obtain⟨n,l⟩:∃n,Lib.nDigits d=n+18:=⟨Lib.nDigits d-18,by omega⟩;have e:∀k u,Lib.nDigits u=k+1->k≠0->10^k<=u:=by{intro k;induction k with|zero=>{intro u _ h;exact absurd rfl h}|succ k ih=>{intro u b _;by_cases c:u<10;{rw[ip c]at b;omega};{rw[lc c]at b;by_cases a:k=0;{subst a;simp;omega};{have:=ih (u / 10) (by omega) a;rw[bz];omega}}}};have g:=e (n+17) d (by omega) (by omega);have i:10^17<=10^(n+17):=b8 (by decide) (by omega);have f:(10:Nat)^17=100000000000000000:=by{decide};omega
theorem aBz (neg:Bool)(b d j:Nat)(q:Int)(l:b<aL)(c:gJ b d q j)(w:H)(T:aA w) :
    Y 21 #[.string ⟨(uM neg (cO d) ((Lib.nDigits d:Int)+q-1)).toArray⟩] w (O (.tuple #[.float .f64 (sgn neg+b),.bool true]) w):=by
 have j1:=c.idx;have j2:=c.j1;have j3:=c.j2;have J:=f7 d;have K:=oL d c.lt;obtain⟨E,u⟩:=aAT d c.pos;obtain⟨N,z⟩:∃N,Lib.nDigits d=N:=⟨_,rfl⟩;have B:=aDh d;have a:=zQ d;rw[<-B,aAM]at a;rw[z]at J K u a ⊢;obtain⟨k,s⟩:∃k,(cO d).length=k:=⟨_,rfl⟩;rw[s]at E u a;obtain⟨hlen,A,F,dot,X,ev,m,f,n⟩:=aDL neg (cO d) ((N:Int)+q-1) (by omega) (by omega) (aAS d) (by omega) (by omega);rw[s]at n;have R:=c.pos;have S:=c.lt;have i:=c.rn;obtain⟨v,D⟩:∃v,eK (cO d)=v:=⟨_,rfl⟩;rw[D]at a n;have v1:1<=v:=by{refine jv fun h=>?_;rw[h,iy]at a;omega};have V:v<=d:=by{rw[<-a];exact nh _ (b7 (by decide))};refine aCZ _ (sgn neg+b) w T (by rw[eG];unfold maxLen;omega) (aOD m) (pB neg b l) (fun w' r=>?_);rcases n with⟨g,x,y⟩|⟨g,x,y,M,P,Q⟩;{have o:bI (bC v (j+(N-k))) (aG (j+(N-k))) b:=by{rw[oP,a];exact i};rw[<-tJ l];exact aAP m v (j+(N-k)) b g v1 (by omega) f o (by omega) (by omega) (.inl (by omega)) w' r};{obtain⟨p,C⟩:∃p,((N:Int)+q-1+1-k).toNat=p:=⟨_,rfl⟩;rw[C]at g;have o:bI (bC (v*10^p) 348) (aG 348) b:=by{by_cases hq:0<=q;{obtain⟨t,f⟩:∃t,j=348+t:=⟨j-348,by omega⟩;rw[f,oP,<-a,ag,<-aj,show N-k+t=p by omega]at i;exact i};{obtain⟨t,f⟩:∃t,348=j+t:=⟨348-j,by omega⟩;have e:bC (v*10^p) 348=bC (v*10^p) (j+t):=by{rw[<-f]};have e':aG 348=aG (j+t):=by{rw[<-f]};rw[e,e',oP,ag,<-aj,show p+t=N-k by omega,a];exact i}};have L:1<=v*10^p:=cf v1 (b7 (by decide));rw[<-tJ l];exact aAP m (v*10^p) 348 b g L (by omega) f o (by omega) (by omega) (.inr ⟨by omega,by omega⟩) w' r}
theorem aEI (neg:Bool)(b:Nat)(g:1<=b)(c:b<aL):∃d q j,gJ b d q j/\∃t:I,t=⟨(uM neg (cO d) ((Lib.nDigits d:Int)+q-1)).toArray⟩/\t.size<=25 /\
    (∀w,aA w->Y 63 #[.float .f64 (sgn neg+b:Nat)] w (O (.string t) w)) /\
    (∀w,aA w->Y 21 #[.string t] w (O (.tuple #[.float .f64 (sgn neg+b),.bool true]) w)) /\
    (∀w,aA w->Y 20 #[.string t] w (O (.tuple #[.string t,.bool true]) w)):=by
 obtain⟨d,q,j,a,h⟩:=aH7 b g c;have j1:=a.idx;have j2:=a.j1;have j3:=a.j2;have m:=f7 d;have n:=oL d a.lt;obtain⟨k,l⟩:=aAT d a.pos;have hlen:=(aDL neg (cO d) ((Lib.nDigits d:Int)+q-1) (by omega) (by omega) (aAS d) (by omega) (by omega)).1;have f:∀w,aA w->Y 63 #[.float .f64 (sgn neg+b:Nat)] w (O (.string ⟨(uM neg (cO d) ((Lib.nDigits d:Int)+q-1)).toArray⟩) w):=by{intro w T;cases neg;{have:=h w T;rw[wQ];exact this};{have e:sgn true=9223372036854775808:=by{simp[sgn]};rw[e];have i:(aAk (cO d) ((Lib.nDigits d:Int)+q-1)).length<=1000:=by{unfold uM at hlen;simp only[ax]at hlen;omega};exact aKj b _ i g c w T h}};exact⟨d,q,j,a,_,rfl,by rw[eG];exact hlen,f,fun w T=>aBz neg b d j q c a w T,fun w T=>aHO _ _ _ w T (fun w T=>aBz neg b d j q c a w T) f⟩
