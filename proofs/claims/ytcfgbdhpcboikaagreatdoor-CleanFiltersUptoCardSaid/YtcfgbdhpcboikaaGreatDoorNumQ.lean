/-
Every numeral's parts; what readFloat and special give of it.
-/
import Derived.Test.YtcfgbdhpcboikaaGreatDoorNumL
import Derived.Great.Walk
import Derived.Test.YtcfgbdhpcboikaaGreatDoorDecH
namespace Go.Proofs.YtcfgbdhpcboikaaGreatDoor
set_option maxHeartbeats 2000000
set_option maxRecDepth 100000
open Go.RowKit
theorem aB1 {n:Nat}:n<=n:=ah n
structure aLd (s:I) (neg:Bool) (A F:U) (dot:Bool) (X:U) (ev:Int):Prop where
 txt:s.data.toList=(if neg then [45]else [])++(A++(if dot then 46 :: F else []))++X
 digA:∀c∈A,aE c=true
 digF:∀c∈F,aE c=true
 ne:A≠[]\/dot=true
 F1:dot=true->F≠[]
 exp:(X=[]/\ev=0)\/∃(cE:UInt8) (sg Dg:U) (es:Int),X=cE :: sg++Dg/\(cE=101\/cE=69)/\Dg≠[]/\(∀c∈Dg,aE c=true)/\((sg=[]/\es=1)\/(sg=[43]/\es=1)\/(sg=[45]/\es=-1))/\ev=(bX Dg:Nat)*es
 len:s.size<=40
theorem aLw {s:I}{neg dot:Bool}{A F X:U}{ev:Int}(N:aLd s neg A F dot X ev):∀c∈bK A F dot,cR c=true:=by
 intro c a;unfold bK at a;rcases cu.1 a with h|h;{unfold cR;rw[N.digA c h];rfl};{cases dot;{simp at h};{rw[af rfl]at h;rcases b9.1 h with h|h;{rw[h];rfl};{unfold cR;rw[N.digF c h];rfl}}}
theorem wA (l:U):∃A r,l=A++r/\A.length=digs l/\(∀c∈A,aE c=true)/\l.take (digs l)=A/\l.drop (digs l)=r:=by
 refine⟨l.takeWhile aE,l.dropWhile aE,List.takeWhile_append_dropWhile.symm,rfl,?_,?_,?_⟩;{intro c a;induction l with|nil=>cases a|cons d l ih=>{rw[k8]at a;split at a;{rename_i hd;rcases b9.1 a with h|h;{rw[h];exact hd};{exact ih h}};{cases a}}};{have e:l=l.takeWhile aE++l.dropWhile aE:=List.takeWhile_append_dropWhile.symm;(conv=>lhs;arg 2;rw[e]);unfold digs;exact mh};{have e:l=l.takeWhile aE++l.dropWhile aE:=List.takeWhile_append_dropWhile.symm;(conv=>lhs;arg 2;rw[e]);unfold digs;exact gy}
theorem aJ1 (y:U)(h:oM y=true):∃(i j:U) (es:Int),y=i++j/\j≠[]/\(∀c∈j,aE c=true)/\((i=[]/\es=1)\/(i=[43]/\es=1)\/(i=[45]/\es=-1)):=by
 have g:∀l:U,(!l.isEmpty&&digs l==l.length)=true->l≠[]/\∀c∈l,aE c=true:=by{intro l k;rw[bp]at k;obtain⟨f,d⟩:=k;refine⟨by rintro rfl;exact absurd f (by decide),?_⟩;obtain⟨A,r,e,hA,hd,_,_⟩:=wA l;have d:digs l=l.length:=by{simpa using d};have:r=[]:=by{have m:l.length=A.length+r.length:=by{rw[e];simp};exact fj (by omega)};rw[e,this,eh];exact hd};unfold oM at h;cases y with|nil=>{have:=(g [] h).1;exact absurd rfl this}|cons c y=>{by_cases f:c=43;{rw[af (.inl (by rw[f];rfl))]at h;obtain⟨a,b⟩:=g y h;exact⟨[43],y,1,by rw[f];rfl,a,b,.inr (.inl ⟨rfl,rfl⟩)⟩};{by_cases d:c=45;{rw[af (.inr (by rw[d];rfl))]at h;obtain⟨a,b⟩:=g y h;exact⟨[45],y,-1,by rw[d];rfl,a,b,.inr (.inr ⟨rfl,rfl⟩)⟩};{rw[ae (by simp[f,d])]at h;obtain⟨a,b⟩:=g (c :: y) h;exact⟨[],c :: y,1,rfl,a,b,.inl ⟨rfl,rfl⟩⟩}}}
theorem aDs (n:Nat)(X:U)(h:jY n X=true):n≠0/\∃ev:Int,(X=[]/\ev=0)\/∃(f:UInt8) (sg Dg:U) (es:Int),X=f :: sg++Dg/\(f=101\/f=69)/\Dg≠[]/\(∀c∈Dg,aE c=true)/\((sg=[]/\es=1)\/(sg=[43]/\es=1)\/(sg=[45]/\es=-1))/\ev=(bX Dg:Nat)*es:=by
 unfold jY at h;split at h;{cases h};{rename_i j;refine⟨j,?_⟩;split at h;{rename_i g;exact⟨0,.inl ⟨g,rfl⟩⟩};{rename_i g;split at h;{rename_i i;cases X with|nil=>exact absurd rfl g|cons c y=>{obtain⟨sg,Dg,es,e,a,b,d⟩:=aJ1 y h;exact⟨_,.inr ⟨c,sg,Dg,es,by rw[e];rfl,by simpa using i,a,b,d,rfl⟩⟩}};{cases h}}}
theorem aJ2 (s:I)(h:cH s.data.toList=true):∃neg A F dot X ev,aLd s neg A F dot X ev:=by
 unfold cH at h;split at h;{cases h};{rename_i k;have d:s.size<=40:=by{rw[aS];omega};obtain⟨neg,l1,e1,h⟩:∃(neg:Bool) (l1:U),s.data.toList=(if neg then [45]else [])++l1/\sP l1=true:=by{split at h;{rename_i a;cases hs:s.data.toList with|nil=>{rw[hs]at a;cases a}|cons c l=>{rw[hs]at a h;have:c=45:=by{simpa using a};exact⟨true,l,by rw[this];rfl,h⟩}};{exact⟨false,_,rfl,h⟩}};unfold sP at h;obtain⟨A,r,e2,hA,dA,_,f⟩:=wA l1;rw[f]at h;split at h;{rename_i b;cases r with|nil=>cases b|cons c r=>{have g:c=46:=by{simpa using b};subst g;have e3:(46 :: r).drop 1=r:=rfl;rw[e3]at h;obtain⟨F,X,e4,hF,dF,_,e⟩:=wA r;split at h;{cases h};{rename_i i;have e5:(46 :: r).drop (1+digs r)=X:=by{rw[ki,fo];exact e};rw[e5]at h;obtain⟨_,ev,hX⟩:=aDs _ _ h;refine⟨neg,A,F,true,X,ev,⟨?_,dA,dF,.inr rfl,?_,hX,d⟩⟩;{rw[e1,e2,e4];simp};{rintro _ rfl;exact i (by rw[<-hF];rfl)}}}};{obtain⟨j,ev,hX⟩:=aDs _ _ h;refine⟨neg,A,[],false,r,ev,⟨?_,dA,by simp,.inl ?_,by simp,hX,d⟩⟩;{rw[e1,e2];simp};{rintro rfl;exact j (by rw[<-hA];rfl)}}}
theorem aH0 {s:I}{neg dot:Bool}{A F X:U}{ev:Int}(N:aLd s neg A F dot X ev) :
  ∃m q,xU s neg m/\nP s m q/\aBs s q ev/\aM s m q=bK A F dot/\m<s.size/\(∀h:m<s.size,s[m].toNat<=57)/\m=(if neg then 1 else 0):=by
 obtain⟨S,r⟩:∃S:U,(if neg then [45]else [])=S:=⟨_,rfl⟩;obtain⟨W,w⟩:∃W,bK A F dot=W:=⟨_,rfl⟩;have d:=N.txt;have x:=aLw N;rw[w]at x;have g:A++(if dot then 46 :: F else [])=W:=w;rw[r,g]at d;have t:s.size=S.length+W.length+X.length:=by{rw[aS,d];simp;omega};have V:1<=W.length:=by{rw[<-g];rcases N.ne with h|h;{have:=g7.2 h;simp;omega};{rw[h];simp;omega}};have R:S.length=(if neg then 1 else 0):=by{rw[<-r];cases neg<;>rfl};have K:∀h:S.length<s.size,aE s[S.length]=true\/s[S.length]=46:=by{intro h;have e:=cZ s S W X d S.length h aB1 (by omega);rw[e];have:=x (W[S.length-S.length]'(by omega)) (dz _);simpa [cR]using this};have J:S.length<s.size:=by{omega};have B:46<=s[S.length].toNat/\s[S.length].toNat<=57:=by{rcases K J with h|h;{have:=eE _ h;omega};{rw[h];decide}};refine⟨S.length,S.length+W.length,?_,?_,?_,?_,J,fun h=>B.2,R⟩;{refine⟨by omega,?_⟩;cases neg;{have v:S=[]:=by{rw[<-r];rfl};subst v;left;have b:=B;refine⟨rfl,rfl,?_,?_⟩;{rw[ai];have:(s[0].toNat)=s[([]:U).length].toNat:=rfl;omega};{rw[ai];have:(s[0].toNat)=s[([]:U).length].toNat:=rfl;omega}};{have v:S=[45]:=by{rw[<-r];rfl};subst v;right;have e:=cZ s [] [45] (W++X) (by rw[d];simp) 0 (by omega) (bb _) (by simp);have z:s[0]'(by omega)=45:=e;refine⟨rfl,rfl,?_,?_⟩;{rw[z];decide};{rw[z];decide}}}
 ·refine⟨by omega,by omega,?_,?_,?_,?_⟩;{intro j h a h2;rw[cZ s S W X d j h a (by omega)];exact x _ (dz _)};{intro j h a h2 L;rw[aFy s S W X d j a (by omega)];have e:=cZ s S W X d j h a (by omega);rw[L]at e;have P:j-S.length=A.length:=by{rcases i8 (j-S.length) A.length with hl|hl|hl;{exfalso;have u:W[j-S.length]'(by omega)=A[j-S.length]'hl:=by{have:=ky g.symm (i:=j-S.length) (by omega);rw[this,kw hl]};rw[u]at e;have:=N.digA _ (dz hl);rw[<-e]at this;exact absurd this (by decide)};{exact hl};{exfalso;cases dot;{have:W=A:=by{rw[<-g];simp};rw[this]at h2;omega};{have C:W=A++46 :: F:=by{rw[<-g];rfl};have hlF:j-S.length-A.length-1<F.length:=by{have:W.length=A.length+(F.length+1):=by{rw[C];simp};omega};have u:W[j-S.length]'(by omega)=F[j-S.length-A.length-1]'hlF:=by{have:=ky C (i:=j-S.length) (by omega);rw[this,jm (by omega)];rw[List.getElem_cons];rw[dif_neg (by omega)]};rw[u]at e;have:=N.digF _ (dz hlF);rw[<-e]at this;exact absurd this (by decide)}}};have e3:W.take (j-S.length)=A:=by{rw[P,<-g,mh]};rw[e3];exact uL A N.digA};{rw[pF s S W X d];rcases N.ne with h|h;{obtain⟨c,p⟩:=vj _ h;exact yW W c (by rw[<-g];simp[p]) (N.digA c p)};{obtain⟨c,p⟩:=vj _ (N.F1 h);exact yW W c (by rw[<-g,h];simp[p]) (N.digF c p)}}
  ·intro h;have l:X≠[]:=by{intro k;rw[k]at t;simp at t;omega}
   have e:=cZ s (S++W) X [] (by rw[d];simp) (S.length+W.length) h (by simp) (by
    simp;exact g7.2 l)
   rw[e];rcases N.exp with⟨k,_⟩|⟨o,f,Dg,es,k,D,_⟩;{exact absurd k l};{subst k;simpa using D}
 {rcases N.exp with⟨k,a⟩|⟨o,f,Dg,es,l,D,Q,E,T,M⟩;{left;rw[k]at t;simp at t;exact⟨by omega,a⟩};{right;have aa:1<=Dg.length:=g7.2 Q;have ab:X.length=1+f.length+Dg.length:=by{rw[l];simp;omega};have hq:S.length+W.length+1<s.size:=by{omega};have y:s.data.toList=(S++W++[o]++f)++Dg++[]:=by{rw[d,l];simp};have n:(S++W++[o]++f).length=S.length+W.length+1+f.length:=by{simp;omega};refine⟨hq,S.length+W.length+1+f.length,es,?_,by omega,?_,?_⟩;{rcases T with⟨a,h2⟩|⟨a,h2⟩|⟨a,h2⟩;{left;refine⟨by rw[a];rfl,h2,?_⟩;rw[a]at n;have:=cZ s _ Dg [] y (S.length+W.length+1) hq (by rw[a,n];simp) (by rw[a,n];simp;omega);rw[this];exact E _ (dz _)};{right;left;refine⟨by rw[a];rfl,h2,?_⟩;have:=cZ s (S++W++[o]) f Dg (by rw[d,l];simp) (S.length+W.length+1) hq (by simp;omega) (by rw[a];simp;omega);rw[this];simp[a]};{right;right;refine⟨by rw[a];rfl,h2,?_⟩;have:=cZ s (S++W++[o]) f Dg (by rw[d,l];simp) (S.length+W.length+1) hq (by simp;omega) (by rw[a];simp;omega);rw[this];simp[a]}};{intro j h a;have:=cZ s _ Dg [] y j h (by rw[n];exact a) (by rw[n];omega);rw[this];exact E _ (dz _)};{have e:aM s (S.length+W.length+1+f.length) s.size=Dg:=by{have:=pF s _ Dg [] y;rw[n,show S.length+W.length+1+f.length+Dg.length=s.size by omega]at this;exact this};rw[e];exact M}}};{rw[w];exact pF s S W X d}
theorem aHZ (s:I)(h:cH s.data.toList=true):∃neg c q ev,s.size<=40/\xU s neg c/\nP s c q/\aBs s q ev /\
  ∀w,Y 233 #[.string s] w fun e w'=>e=.returned (.tuple #[.float .f64 0,.int .i64 0,.bool false])/\w=w':=by
 obtain⟨neg,A,F,dot,X,ev,N⟩:=aJ2 s h;obtain⟨c,q,⟨f,j⟩,k,l,m,d,g,n⟩:=aH0 N;refine⟨neg,c,q,ev,N.len,⟨f,j⟩,k,l,fun w=>?_⟩;have i:=N.len;rcases j with⟨rfl,rfl,a,b⟩|⟨rfl,rfl,a,b⟩
 ·exact qQ s w f i (g d) a b
 ·exact xF s w d i a b (g d)
open Go.RowKit
def aAO (s:I):Prop:=∀w,Y 233 #[.string s] w fun e w'=>e=.returned (.tuple #[.float .f64 0,.int .i64 0,.bool false])/\w=w'
def xQ (s:I)(m:Nat)(x:Int)(neg tr:Bool):Prop:=∀w,Y 234 #[.string s] w fun e w'=>e=.returned (.tuple #[.int .u64 m,.int .i64 x,.bool neg,.bool tr,.bool false,.int .i64 s.size,.bool true])/\w=w'
theorem aAq (s:I)(x:Int)(neg tr:Bool)(w:H)(T:aA w)(b:aAO s)(a:xQ s 0 x neg tr) :
  Y 205 #[.string s] w fun e w'=>e=.returned (.tuple #[.float .f64 (sgn neg+0),.int .i64 s.size,.nilIface])/\w=w':=by
 have g:=T.opt;have f:=mB;have d:=Z b;have c:=Z a;clear b a T;cases neg;all_goals
  go_enter Tryz.func205,Tryz.ntmps205
  go_wp2_with (first
   | (go_at_call 233;refine(d.o _).mono ?_;rintro e w' ⟨rfl,rfl⟩)
   | (go_at_call 234;refine(c.o _).mono ?_;rintro e w' ⟨rfl,rfl⟩)
   | (go_at_call 242;((with_reducible refine(cX _).mono ?_);rintro e w' ⟨rfl,rfl⟩))
   | (go_at_call 242;((with_reducible refine(cN _).mono ?_);rintro e w' ⟨rfl,rfl⟩)))
  go_ret3;exact⟨rfl,rfl⟩
theorem aIX (s:I)(m:Nat)(x:Int)(neg tr:Bool)(w:H)(T:aA w)(b:aAO s)(a:xQ s m x neg tr)(h:m≠0)(hx:310<x) :
  Y 205 #[.string s] w fun e w'=>e=.returned (.tuple #[.float .f64 (sgn neg+9218868437227405312),.int .i64 s.size,.iface 158 (.int .i64 1)])/\w=w':=by
 have g:=T.opt;have f:=mB;have i:((m:Int)==0)=false:=ai.2 (by omega);have d:=Z b;have c:=Z a;clear b a T;cases neg;all_goals
  go_enter Tryz.func205,Tryz.ntmps205
  go_wp2_with (first
   | (go_at_call 233;refine(d.o _).mono ?_;rintro e w' ⟨rfl,rfl⟩)
   | (go_at_call 234;refine(c.o _).mono ?_;rintro e w' ⟨rfl,rfl⟩)
   | (go_at_call 242;((with_reducible refine(cX _).mono ?_);rintro e w' ⟨rfl,rfl⟩))
   | (go_at_call 242;((with_reducible refine(cN _).mono ?_);rintro e w' ⟨rfl,rfl⟩)))
  go_ret3;exact⟨rfl,rfl⟩
theorem aIZ (s:I)(m:Nat)(x:Int)(neg tr:Bool)(w:H)(T:aA w)(b:aAO s)(a:xQ s m x neg tr)(h:m≠0)(hx:x < -345) :
  Y 205 #[.string s] w fun e w'=>e=.returned (.tuple #[.float .f64 (sgn neg+0),.int .i64 s.size,.nilIface])/\w=w':=by
 have g:=T.opt;have f:=mB;have i:((m:Int)==0)=false:=ai.2 (by omega);have d:=Z b;have c:=Z a;clear b a T;cases neg;all_goals
  go_enter Tryz.func205,Tryz.ntmps205
  go_wp2_with (first
   | (go_at_call 233;refine(d.o _).mono ?_;rintro e w' ⟨rfl,rfl⟩)
   | (go_at_call 234;refine(c.o _).mono ?_;rintro e w' ⟨rfl,rfl⟩)
   | (go_at_call 242;((with_reducible refine(cX _).mono ?_);rintro e w' ⟨rfl,rfl⟩))
   | (go_at_call 242;((with_reducible refine(cN _).mono ?_);rintro e w' ⟨rfl,rfl⟩)))
  go_ret3;exact⟨rfl,rfl⟩
theorem aIY (s:I)(m:Nat)(x:Int)(neg:Bool)(r:Nat)(v:Value)(w:H)(T:aA w)(h:aAO s)(g:xQ s m x neg false)(q:m≠0)(x1:-345<=x)(x2:x<=310)
  (b:∀w,aA w->Y 244 #[.int .u64 m,.int .i64 x,.bool neg] w (nO w))
  (d:∀w,aA w->Y 245 #[.int .u64 m,.int .i64 x,.int .u64 (sgn neg)] w (O (.tuple #[.float .f64 r,v]) w)) :
  Y 205 #[.string s] w (O (.tuple #[.float .f64 r,.int .i64 s.size,v]) w):=by
 have p:=T.opt;have t:((m:Int)==0)=false:=ai.2 (by omega);have n:=Z h;have l:=Z g;have j:=Z b;have k:=Z d;have c:=Z T;clear h g b d T;cases neg;all_goals
  go_enter Tryz.func205,Tryz.ntmps205
  go_wp2_with (first
   | (go_at_call 233;refine(n.o _).mono ?_;rintro e w' ⟨rfl,rfl⟩)
   | (go_at_call 234;refine(l.o _).mono ?_;rintro e w' ⟨rfl,rfl⟩)
   | (go_at_call 242;((with_reducible refine(cX _).mono ?_);rintro e w' ⟨rfl,rfl⟩))
   | (go_at_call 242;((with_reducible refine(cN _).mono ?_);rintro e w' ⟨rfl,rfl⟩)))
  refine(j.o _ c.o).mono ?_;rintro e u ⟨f,rfl,rfl⟩;go_wp2_with fail
  refine(k.o _ c.o).mono ?_;rintro e y ⟨rfl,a⟩;have i:=Z a;clear a;go_wp2
  go_ret3;exact⟨rfl,i.o⟩
theorem aIW (s:I)(m:Nat)(x:Int)(neg:Bool)(r j:Nat)(v v2:Value)(w:H)(T:aA w)(i:aAO s)(h:xQ s m x neg true)(y:m≠0)(A:m+1<18446744073709551616)(x1:-345<=x)(x2:x<=310)
  (f:∀w,aA w->Y 245 #[.int .u64 m,.int .i64 x,.int .u64 (sgn neg)] w (O (.tuple #[.float .f64 r,v]) w))
  (g:∀w,aA w->Y 245 #[.int .u64 (m+1:Nat),.int .i64 x,.int .u64 (sgn neg)] w (O (.tuple #[.float .f64 j,v2]) w))
  (hq:(FloatKind.f64.format.order r j==some .eq)=true) :
  Y 205 #[.string s] w (O (.tuple #[.float .f64 r,.int .i64 s.size,v]) w):=by
 have u:=T.opt;have z:((m:Int)==0)=false:=ai.2 (by omega);have q:=Z i;have p:=Z h;have l:=Z f;have n:=Z g;have d:=Z T;clear i h f g T;cases neg;all_goals
  go_enter Tryz.func205,Tryz.ntmps205
  go_wp2_with (first
   | (go_at_call 233;refine(q.o _).mono ?_;rintro e w' ⟨rfl,rfl⟩)
   | (go_at_call 234;refine(p.o _).mono ?_;rintro e w' ⟨rfl,rfl⟩)
   | (go_at_call 242;((with_reducible refine(cX _).mono ?_);rintro e w' ⟨rfl,rfl⟩))
   | (go_at_call 242;((with_reducible refine(cN _).mono ?_);rintro e w' ⟨rfl,rfl⟩)))
  refine(l.o _ d.o).mono ?_;rintro e B ⟨rfl,a⟩;have c:=Z a;have t:=Z (d.o.below a aB1);clear a;go_wp2_with fail
  refine(n.o _ t.o).mono ?_;rintro e C ⟨rfl,b⟩;have k:=Z (c.o.trans (b.mono c.o.size));clear b;go_wp2
  go_ret3;exact⟨rfl,k.o⟩
open Go.RowKit
def aCJ:Dec.Dc:=⟨List.replicate 800 0,0,0,false,false⟩
theorem aLI:aCJ.D.length=800:=ix
def aAm:Array Value:=(kZ aCJ).toArray
theorem aLj (m:Nat)(h:m<18446744073709551616):bits .and .u64 (m:Int) 4503599627370495=((m%4503599627370496:Nat):Int):=by
 have:=nc m 4503599627370495 h (by omega);rw[show(4503599627370495:Nat)=2^52-1 from rfl,jk]at this;exact this
theorem aB8 (m x:Nat)(neg:Bool)(h:m<18446744073709551616)(hx:x<2048):jZ m x neg=((sgn neg+(x*4503599627370496+m%4503599627370496):Nat):Int):=by
 have b:=aLj m h;have c:bits .and .i64 (x:Int) 2047=x:=uV x (by omega);have d:IntKind.u64.wrap (IntKind.u64.wrap (x:Int)*4503599627370496)=((x*4503599627370496:Nat):Int):=by{rw[dC,dC];omega};have g:m%4503599627370496<4503599627370496:=gf _ (by decide);have e:bits .or .u64 ((m%4503599627370496:Nat):Int) ((x*4503599627370496:Nat):Int)=((x*4503599627370496+m%4503599627370496:Nat):Int):=by{have:=(aJ3 0 (m%4503599627370496) x (.inl rfl) g).resolve_right (by omega);rw[bw,bw]at this;exact this};unfold jZ;rw[b,c,d,e];cases neg;{rw[ae (by decide)];simp[sgn]};{rw[af rfl];have:=pX 9223372036854775808 (x*4503599627370496+m%4503599627370496) (.inr rfl) (by omega);rw[show bits .or .u64 ((x*4503599627370496+m%4503599627370496:Nat):Int) 9223372036854775808=bits .or .u64 ((9223372036854775808:Nat):Int) ((x*4503599627370496+m%4503599627370496:Nat):Int)from ?_,this];{simp[sgn]};{have a:=l8 (x*4503599627370496+m%4503599627370496) 9223372036854775808 (by omega) (by omega);have f:=l8 9223372036854775808 (x*4503599627370496+m%4503599627370496) (by omega) (by omega);rw[tf]at a;exact a.trans f.symm}}
theorem aMH (s:Dec.Dc):rF s<18446744073709551616:=by
 unfold rF;split;{omega};{split;{exact gf _ (by decide)};{exact zX _ _}}
theorem aHf (m:Nat)(E:Int)(neg:Bool)(a:m<18446744073709551616)(d:-1022<=E)(e:E+1023<2047):∃b,b<aL/\uH m E neg=(((sgn neg+b:Nat):Int),false):=by
 obtain⟨x,hx,c⟩:∃x:Nat,x<2047/\(if bits .and .u64 (m:Int) 4503599627370496==0 then 0 else E+1023)=(x:Int):=by{split;{exact⟨0,by omega,rfl⟩};{exact⟨(E+1023).toNat,by omega,by omega⟩}};unfold uH;rw[c,aB8 m x neg a (by omega)];exact⟨_,by unfold aL;omega,rfl⟩
theorem aA8 (neg:Bool):jZ 0 2047 neg=((sgn neg+aL:Nat):Int):=aB8 0 2047 neg (by decide) (by decide)
theorem aOH (s:Dec.Dc)(E:Int)(neg:Bool)(a:-1022<=E):(∃b,b<aL/\aA7 s E neg=(((sgn neg+b:Nat):Int),false))\/aA7 s E neg=(((sgn neg+aL:Nat):Int),true):=by
 unfold aA7;split;{exact .inr (by rw[aA8])};{split;{split;{exact .inr (by rw[aA8])};{exact .inl (aHf _ _ _ (by omega) (by omega) (by omega))}};{exact .inl (aHf _ _ _ (aMH _) a (by omega))}}
theorem aQW (s:Dec.Dc)(E:Int):-1022<=(upS s E).2:=by
 unfold upS;split;{exact ig _};{omega}
theorem aQd (a c:Nat)(s:Dec.Dc):(∃b,b<aL/\fbF a c s=(((sgn s.neg+b:Nat):Int),false))\/fbF a c s=(((sgn s.neg+aL:Nat):Int),true):=aOH _ _ _ (aQW _ _)
theorem aA.slow {w:H}(T:aA w)(o:Obj):oC (w.alloc o) w.heap.size:=by
 have c:∀a v,w.cell? a=some v->(w.alloc o).cell? a=some v/\a.block≠w.heap.size:=fun a v g=>by{have:=dx w _ g;exact⟨by rw[((am w.heap.size w).alloc aB1 o).cell this,g],by omega⟩};obtain⟨b,d,j,e⟩:=T.cheats;obtain⟨h,l,k,f⟩:=T.p2;refine⟨⟨b,d,(c _ _ (e 0 (by omega)).1).2,(c _ _ j).1,fun i hi=>?_⟩,⟨h,l,(c _ _ (f 0 (by omega))).2,(c _ _ k).1,fun i hi=>(c _ _ (f i hi)).1⟩,(c _ _ T.info0).1,(c _ _ T.info1).1,(c _ _ T.info2).1,?_⟩;{have:=e i hi;rw[show i*2=2*i by omega,show d+2*i+1=d+(2*i+1) by omega];exact⟨(c _ _ this.1).1,(c _ _ this.2).1⟩};{have:=T.size;omega}
theorem aNW (w:H):aC (w.alloc (.cells aAm 234)) w.heap.size aCJ:=⟨cc w _,aLI⟩
theorem aGa:Tryz.zeroCells234=aAm:=by kernel_rfl
theorem aLo (s:I)(m:Nat)(x:Int)(neg:Bool)(r P:Nat)(v v2:Value)(w:H)(T:aA w)(M:aAO s)(J:xQ s m x neg true)(hm:m≠0)(av:m+1<18446744073709551616)(x1:-345<=x)(x2:x<=310)(_hs:s.size<=40)
  (E:∀w,aA w->Y 245 #[.int .u64 m,.int .i64 x,.int .u64 (sgn neg)] w (O (.tuple #[.float .f64 r,v]) w))
  (F:∀w,aA w->Y 245 #[.int .u64 (m+1:Nat),.int .i64 x,.int .u64 (sgn neg)] w (O (.tuple #[.float .f64 P,v2]) w))
  (hq:(FloatKind.f64.format.order r P==some .eq)=false) (D:Dec.Dc) (z:Int) (j:Bool)
  (L:∀w B,aC w B aCJ->Y 240 #[.pointer (some ⟨B,0,none⟩),.string s] w fun e w'=>e=.returned (.bool true)/\aC w' B D/\aD (· = B) w w')
  (p:∀w B,oC w B->aC w B D->Y 241 #[.pointer (some ⟨B,0,none⟩),.pointer (some ⟨8,0,none⟩)] w (xJ B (z,j) w)) :
  Y 205 #[.string s] w fun e w'=>e=.returned (.tuple #[.float .f64 z.toNat,.int .i64 s.size,if j then .iface 158 (.int .i64 1)else .nilIface])/\Below w.heap.size w w':=by
 have h3:=T.opt;have d1:=mB;have ao:((m:Int)==0)=false:=ai.2 (by omega);have ad:=Z M;have aa:=Z J;have V:=Z E;have X:=Z F;have ac:=Z L;have R:=Z p;have y:=Z T;clear M J E F L p T;cases neg;all_goals
  go_enter Tryz.func205,Tryz.ntmps205
  go_wp2_with (first
   | (go_at_call 233;refine(ad.o _).mono ?_;rintro e w' ⟨rfl,rfl⟩)
   | (go_at_call 234;refine(aa.o _).mono ?_;rintro e w' ⟨rfl,rfl⟩)
   | (go_at_call 242;((with_reducible refine(cX _).mono ?_);rintro e w' ⟨rfl,rfl⟩))
   | (go_at_call 242;((with_reducible refine(cN _).mono ?_);rintro e w' ⟨rfl,rfl⟩)))
  refine(V.o _ y.o).mono ?_;rintro e w2 ⟨rfl,c⟩;have q:=Z c;have A:=Z (y.o.below c aB1);clear c;go_wp2_with fail
  refine(X.o _ A.o).mono ?_;rintro e l ⟨rfl,d⟩;have g:=Z (q.o.trans (d.mono q.o.size));have al:=Z (A.o.below d aB1);clear d;go_wp2_with fail
  rw[aGa];have f:=aNW l;have i:=al.o.slow (.cells aAm 234);obtain⟨W,b⟩:∃W,l.alloc (.cells aAm 234)=W:=⟨_,rfl⟩
  have N:Below w.heap.size w W:=by rw[<-b];exact g.o.alloc g.o.size _
  obtain⟨B,a⟩:∃B,l.heap.size=B:=⟨_,rfl⟩
  have an:w.heap.size<=B:=by rw[<-a];exact g.o.size
  rw[b,a]at f i
  rw[b,a];clear b a;refine(ac.o _ _ f).mono ?_;rintro e w4 ⟨rfl,n,h⟩;have K:=i.kept h;have Q:=Z n;have ab:=Z K;have S:=Z h;have u:=Z N;clear n K h f i N;go_wp2_with fail
  refine(R.o _ _ ab.o Q.o).mono ?_;rintro e w5 ⟨rfl,C⟩;have t:G (Below w.heap.size w w5):=u.o.trans ((S.o.trans C).below u.o.size (fun k _ e=>by omega));clear C;cases j
  ·go_wp2
   go_ret3;exact⟨rfl,t.o⟩
  ·go_wp2
   go_ret3;exact⟨rfl,t.o⟩
