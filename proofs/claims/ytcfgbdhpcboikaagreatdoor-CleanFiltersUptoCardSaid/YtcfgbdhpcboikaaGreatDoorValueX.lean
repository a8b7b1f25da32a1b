/-
policy.Value, of every element, attribute and value: what it answers.
-/
import Derived.Test.YtcfgbdhpcboikaaGreatDoorFormL
namespace Go.Proofs.YtcfgbdhpcboikaaGreatDoor
set_option maxHeartbeats 4000000
set_option maxRecDepth 100000
open Go.RowKit
theorem aKO (a b x y:U)(c:UInt8)(h:a++c :: b=x++c :: y)(hx:c∉x)(g:c∉y):a=x/\b=y:=by
 rcases List.append_eq_append_iff.1 h with⟨l,f,e⟩|⟨l,f,e⟩;{cases l with|nil=>{simp only[d8,fu,fk]at e;exact⟨by rw[f,eh],e⟩}|cons d l=>{simp only[dw,fu]at e;exact absurd (by rw[f,e.1];simp) hx}};{cases l with|nil=>{simp only[d8,fu,fk]at e;exact⟨by rw[f,eh],e.symm⟩}|cons d l=>{simp only[dw,fu]at e;exact absurd (by rw[e.2];simp) g}}
theorem aJC:aA0=aCO.map (fun p=>p.1++32 :: p.2):=by decide
theorem aLX:∀p∈aCO,(32:UInt8)∉p.1/\(32:UInt8)∉p.2/\aZ ⟨p.1.toArray⟩ ⟨p.2.toArray⟩≠.none:=by decide +kernel
theorem aL8 {e n:I}(h:aZ e n=.none)(l:U)(a:aA0.contains l=true):((e++⟨#[32]⟩++n).toList==(⟨l.toArray⟩:I).toList)=false:=by
 rw[ai,toList_data,toList_data];intro he;rw[aJC]at a;have g:l∈aCO.map (fun p=>p.1++32 :: p.2):=by{rw[pp]at a;exact a};obtain⟨p,i,b⟩:=g9.1 g;obtain⟨p1,p2,j⟩:=aLX p i;have f:e.data.toList++32 :: n.data.toList=p.1++32 :: p.2:=by{have e3:(e++⟨#[32]⟩++n).data.toList=e.data.toList++32 :: n.data.toList:=by{simp};rw[<-e3,he,<-b]};obtain⟨c,d⟩:=aKO _ _ _ _ _ f p1 p2;refine j ?_;rw[<-c,<-d];exact h
theorem aCz (v:I):(dK v).size<=3*v.size:=nV v.data.toList
theorem aBX (v:I):(iO v).size<=3*v.size:=yJ v.data.toList
theorem aJh {v:I}(h:aAU v):v.size<=4:=by rcases h with rfl|rfl|rfl<;>decide
theorem aAZ {e n:I}(h:aZ e n=.none):n≠lQ/\n≠pW/\n≠wO:=by
 unfold aZ at h;refine⟨fun c=>?_,fun c=>?_,fun c=>?_⟩;{rw[af c]at h;cases h};{by_cases d:n=lQ;{rw[af d]at h;cases h};{rw[ae d,af c]at h;cases h}};{by_cases d:n=lQ;{rw[af d]at h;cases h};{by_cases a:n=pW;{rw[ae d,af a]at h;cases h};{rw[ae d,ae a,af c]at h;cases h}}}
theorem aGm {e n:I}(h:fQ e n=true):(e=dM/\(n=sX\/n=lR\/n=wP\/n=aBd\/n=aBe))\/(e=fO/\(n=sX\/n=lR)):=by
 unfold fQ at h;simp only[la,bp,bi]at h;rcases h with⟨a,b⟩|⟨a,b⟩;{refine .inl ⟨a,?_⟩;rcases b with(((h|h)|h)|h)|h;{exact .inl h};{exact .inr (.inl h)};{exact .inr (.inr (.inl h))};{exact .inr (.inr (.inr (.inl h)))};{exact .inr (.inr (.inr (.inr h)))}};{exact .inr ⟨a,b⟩}
theorem aE4 {e n v t:I}{b:Bool}(h:fQ e n=true)(a:∀w,aA w->Y 20 #[.string v] w (O (.tuple #[.string t,.bool b]) w)):cI e n v t b:=by
 rcases aGm h with⟨rfl,h|h|h|h|h⟩|⟨rfl,h|h⟩<;>subst h;{exact aDX v t b a};{exact aBQ v t b a};{exact aCQ v t b a};{exact aDW v t b a};{exact aDY v t b a};{exact aA1 v t b a};{exact yC v t b a}
theorem aG6 {e n v:I}{x:Int}{b:Bool}(h:(e=sTd\/e=sTh)/\(n=gT\/n=gU))(a:eQ v 1 1000 x b):cI e n v v b:=by
 rcases h with⟨rfl|rfl,rfl|rfl⟩;{exact aCR v x b a};{exact aCS v x b a};{exact aCT v x b a};{exact aCU v x b a}
theorem aG4 {e n v:I}{x:Int}{b:Bool}(h:e=fA/\(n=mF\/n=oT))(a:eQ v 0 9999 x b):cI e n v v b:=by
 rcases h with⟨rfl,rfl|rfl⟩;{exact aCP v x b a};{exact aDV v x b a}
theorem aG5 {e n v:I}{x:Int}{b:Bool}(h:e=sOl/\n=oS)(a:eQ v 0 999999 x b):cI e n v v b:=by
 rcases h with⟨rfl,rfl⟩;exact aE5 v x b a
theorem aDo (e n v t:I)(r:v.size<=1048576)(h:qS (aZ e n) v (some t)):cI e n v t true/\t.size<=4000000:=by
 have s:=aCz v;have q:=aBX v;unfold aZ at h;by_cases b:n=lQ;{rw[af b]at h;subst b;have o:t=dK v:=h;subst o;exact⟨aHT e v (by omega),by omega⟩};rw[ae b]at h;by_cases c:n=pW;{rw[af c]at h;subst c;obtain⟨a,rfl⟩:=h;exact⟨aDn e t (by omega) true (Z ⟨fun _=>a,fun _=>rfl⟩),by omega⟩};rw[ae c]at h;by_cases d:n=wO;{rw[af d]at h;subst d;obtain⟨a,rfl⟩:=h;exact⟨aE3 e v _ true (by omega) (Z ⟨fun _=>⟨rfl,rfl⟩,fun p=>absurd a p⟩),by have:=aJh a;omega⟩};rw[ae d]at h;by_cases f:e=sA/\n=tV;{rw[af f]at h;obtain⟨rfl,rfl⟩:=f;obtain⟨a,rfl⟩:=h;exact⟨aBP v true (Z a) (by omega),by omega⟩};rw[ae f]at h;by_cases g:e=fA/\n=zE;{rw[af g]at h;obtain⟨rfl,rfl⟩:=g;obtain⟨a,rfl⟩:=h;exact⟨aAy v true (Z a) (by omega),by omega⟩};rw[ae g]at h;by_cases m:e=fA/\n=yZ;{rw[af m]at h;obtain⟨rfl,rfl⟩:=m;have o:t=dK v:=h;subst o;exact⟨aGk v (by omega),by omega⟩};rw[ae m]at h;by_cases i:e=fA/\(n=mF\/n=oT);{rw[af i]at h;obtain⟨⟨x,hx⟩,rfl⟩:=h;exact⟨aG4 i hx,by omega⟩};rw[ae i]at h;by_cases j:e=sOl/\n=oS;{rw[af j]at h;obtain⟨⟨x,hx⟩,rfl⟩:=h;exact⟨aG5 j hx,by omega⟩};rw[ae j]at h;by_cases k:(e=sTd\/e=sTh)/\(n=gT\/n=gU);{rw[af k]at h;obtain⟨⟨x,hx⟩,rfl⟩:=h;exact⟨aG6 k hx,by omega⟩};rw[ae k]at h;by_cases l:fQ e n=true;{rw[af l]at h;exact⟨aE4 l h.yes,by have:=h.sz;omega⟩};rw[ae l]at h;exact h.elim
theorem aOh (e n v:I)(p:e.size<=1000000000)(q:n.size<=1000000000)(r:v.size<=1048576)(h:qS (aZ e n) v none):∃t,cI e n v t false:=by
 by_cases a:aZ e n=.none;{obtain⟨k1,k2,k3⟩:=aAZ a;exact⟨_,aJD e n v p q _ (Z rfl) (rO _ k1 rfl) (rO _ k2 rfl) (rO _ k3 rfl) (Z (aL8 a))⟩};unfold aZ at h a;by_cases m:n=lQ;{rw[af m]at h;exact h.elim};rw[ae m]at h a;by_cases c:n=pW;{rw[af c]at h;subst c;exact⟨v,aDn e v (by omega) false (Z (Iff.intro (fun b=>by cases b) (fun b=>absurd b h)))⟩};rw[ae c]at h a;by_cases d:n=wO;{rw[af d]at h;subst d;exact⟨⟨#[]⟩,aE3 e v _ false (by omega) (Z ⟨fun b=>absurd b h,fun _=>⟨rfl,rfl⟩⟩)⟩};rw[ae d]at h a;by_cases f:e=sA/\n=tV;{rw[af f]at h;obtain⟨rfl,rfl⟩:=f;exact⟨_,aBP v false (Z h) (by omega)⟩};rw[ae f]at h a;by_cases g:e=fA/\n=zE;{rw[af g]at h;obtain⟨rfl,rfl⟩:=g;exact⟨_,aAy v false (Z h) (by omega)⟩};rw[ae g]at h a;by_cases o:e=fA/\n=yZ;{rw[af o]at h;exact h.elim};rw[ae o]at h a;by_cases i:e=fA/\(n=mF\/n=oT);{rw[af i]at h;obtain⟨x,hx⟩:=h;exact⟨_,aG4 i hx⟩};rw[ae i]at h a;by_cases j:e=sOl/\n=oS;{rw[af j]at h;obtain⟨x,hx⟩:=h;exact⟨_,aG5 j hx⟩};rw[ae j]at h a;by_cases k:(e=sTd\/e=sTh)/\(n=gT\/n=gU);{rw[af k]at h;obtain⟨x,hx⟩:=h;exact⟨_,aG6 k hx⟩};rw[ae k]at h a;by_cases l:fQ e n=true;{rw[af l]at h;exact⟨_,aE4 l h⟩};rw[ae l]at a;exact absurd rfl a
def kK:Option I->Value
 | some t=>.tuple #[.string t,.bool true]
 | none=>.tuple #[.string ⟨#[]⟩,.bool false]
theorem aII {a b:Option I}(h:kK a=kK b):a=b:=by
 cases a<;>cases b<;>simp[kK]at h ⊢;exact h
theorem zO (e n v:I)(o:Option I)(g:e.size<=1000000000)(j:n.size<=1000000000)(f:v.size<=1048576)(h:iM e n v o)(w:H)(T:aA w) :
  Y 37 #[.string e,.string n,.string v] w (O (kK o) w):=by
 have b:G (aT e (aN e.data.toList:Nat)):=fun w=>sN e w;cases o with|some t=>{obtain⟨k,h2,d⟩:=h;obtain⟨a,c⟩:=aDo e n v t f h2;exact aK9 e n v t _ b (by omega) (by rw[ai];omega) (Z a) c (Z d) w T}|none=>{by_cases i:aN e.data.toList<2\/aN e.data.toList=14;{exact aK8 e n v _ b (by omega) w};{rcases h with h|h|⟨t,h,d⟩;{exact absurd h i};{obtain⟨t,a⟩:=aOh e n v g j f h;exact aNd e n v t _ b (by omega) (by rw[ai];omega) (Z a) w T};{obtain⟨a,c⟩:=aDo e n v t f h;exact aIJ e n v t _ b (by omega) (by rw[ai];omega) (Z a) c (Z d) w T}}}
theorem aLW (a:H)(c:aA a)(k:FK)(v:I)(d:v.size<=1048576):∃o,qS k v o:=by
 cases k with
 | text=>exact⟨some _,rfl⟩
 | lang =>
  by_cases h:nA v
  ·exact⟨some v,h,rfl⟩
  ·exact⟨none,h⟩
 | dir =>
  by_cases h:aAU (cY v)
  ·exact⟨some _,h,rfl⟩
  ·exact⟨none,h⟩
 | linkA =>
  cases h:eY pZ (bN v.data.toList)with
  | true=>exact⟨some _,h,rfl⟩
  | false=>exact⟨none,h⟩
 | linkI =>
  cases h:eY uQ (bN v.data.toList)with
  | true=>exact⟨some _,h,rfl⟩
  | false=>exact⟨none,h⟩
 | whole lo hi =>
  obtain⟨x,b,hx⟩:=aF8 v lo hi (by unfold maxLen;omega);cases b with
  | true=>exact⟨some v,⟨x,hx⟩,rfl⟩
  | false=>exact⟨none,x,hx⟩
 | fix =>
  rcases aG3 a c v (by unfold maxLen;omega)with⟨t,h⟩|h
  ·exact⟨some t,h⟩
  ·exact⟨none,h⟩
 | none=>exact⟨none,trivial⟩
theorem aK7 (c:H)(d:aA c)(e n v:I)(f:v.size<=1048576):∃o,iM e n v o:=by
 by_cases b:aN e.data.toList<2\/aN e.data.toList=14;{exact⟨none,.inl b⟩};{obtain⟨o,a⟩:=aLW c d (aZ e n) v f;cases o with|none=>exact⟨none,.inr (.inl a)⟩|some t=>{rcases ak 120 (gP t).size with h|h;{exact⟨none,.inr (.inr ⟨t,a,h⟩)⟩};{exact⟨some t,b,a,h⟩}}}
theorem aDO (a:H)(b:aA a){e n v:I}{o o':Option I}(c:e.size<=1000000000)(d:n.size<=1000000000)(f:v.size<=1048576)(h:iM e n v o)(g:iM e n v o'):o=o' :=
 aII (tF (by kernel_rfl) (zO e n v o c d f h a b) (zO e n v o' c d f g a b))
theorem aGB (a b:U)(h:a.length<=b.length)(d:1<=a.length):∀(k:Nat) (s:U),s.length<=(Lib.replaceK a b k s).length:=by
 intro k;induction k with|zero=>{intro s;simp[Lib.replaceK]}|succ k ih=>{intro s;by_cases hi:Lib.index s a=-1;{unfold Lib.replaceK;rw[af (by rw[hi];rfl)];exact ah _};{have e:=rr s a;obtain⟨i,c⟩:∃i:Nat,Lib.index s a=i:=⟨(Lib.index s a).toNat,by omega⟩;rw[jw a b k s i c];have:=ih (s.drop (i+a.length));have hr:=Lib.index_room s a (by omega);rw[ax,ax,bu];rw[bm]at this;omega}}
theorem vC (s a b:I)(h:a.size<=b.size)(c:1<=a.size):s.size<=(dP s a b).size:=by
 show s.data.toList.length<=(Lib.replaceAll s.data.toList a.data.toList b.data.toList).length;unfold Lib.replaceAll Lib.replace;split;{exact ah _};{exact aGB _ _ h c _ _}
theorem aP8 (t:I):t.size<=(gP t).size:=by
 unfold gP;refine bg ?_ (vC _ _ _ (by decide) (by decide));refine bg ?_ (vC _ _ _ (by decide) (by decide));refine bg ?_ (vC _ _ _ (by decide) (by decide));refine bg ?_ (vC _ _ _ (by decide) (by decide));exact vC _ _ _ (by decide) (by decide)
theorem aCA {e n v t:I}(h:iM e n v (some t)):t.size<=120:=bg (aP8 t) h.2.2
open Go.RowKit
structure nF (V:I->I->Option I) (l:List AT) (k:Nat) (sn:List I) (done:List AT):Prop where
 le:k<=l.length
 sl:sn.length<=k
 dl:done.length<=k
 o:aW V [] l=done++aW V sn (l.drop k)
theorem nF.start (V:I->I->Option I)(l:List AT):nF V l 0 [] []:=⟨bb _,ah _,ah _,rfl⟩
theorem nF.old {V:I->I->Option I}{l:List AT}{k:Nat}{a:List I}{done:List AT}(h:nF V l k a done)(b:k<l.length)(c:(l[k]).1∈a):nF V l (k+1) a done:=by
 have d:=h.sl;have e:=h.dl;refine⟨b,by omega,by omega,?_⟩;rw[h.o,dt b];conv=>lhs;rhs;unfold aW
 rw[af ((il _ _).2 c)]
theorem nF.yes {V:I->I->Option I}{l:List AT}{k:Nat}{a:List I}{done:List AT}{t:I}(h:nF V l k a done)(b:k<l.length)(c:(l[k]).1∉a)(d:V (l[k]).1 (l[k]).2=some t):nF V l (k+1) (a++[(l[k]).1]) (done++[((l[k]).1,t)]):=by
 have e:=h.sl;have f:=h.dl;refine⟨b,by simp;omega,by simp;omega,?_⟩;rw[h.o,dt b];conv=>lhs;rhs;unfold aW
 rw[ae (fun h=>c ((il _ _).1 h)),d,cv]
theorem nF.no {V:I->I->Option I}{l:List AT}{k:Nat}{a:List I}{done:List AT}(h:nF V l k a done)(b:k<l.length)(c:(l[k]).1∉a)(d:V (l[k]).1 (l[k]).2=none):nF V l (k+1) (a++[(l[k]).1]) done:=by
 have e:=h.sl;have f:=h.dl;refine⟨b,by simp;omega,by omega,?_⟩;rw[h.o,dt b];conv=>lhs;rhs;unfold aW
 rw[ae (fun h=>c ((il _ _).1 h)),d,d8]
theorem nF.done {V:I->I->Option I}{l:List AT}{k:Nat}{b:List I}{done:List AT}(h:nF V l k b done)(a:l.length<=k):aW V [] l=done:=by
 rw[h.o,dy a];unfold aW;rw[eh]
def aDc (V:I->I->Option I)(l:List AT)(w:H)(e:Ending)(w':H):Prop :=
 ∃v r,e=.returned v/\mO V l r/\aF w.heap.size 39 2 v r.length (bM r) w w'
theorem aH4 (e:I)(he:e.size<=1000000000)(V:I->I->Option I)(hV:G (∀n v,n.size<=1048576->v.size<=1048576->iM e n v (V n v)))(l:List AT)(hl:l.length<=1048576)(hs:G (∀x∈l,x.1.size<=1048576/\x.2.size<=1048576))(av:Value)(w:H)(T:aA w)(hA:G (dZ w av l)) :
  Y 38 #[.string e,av] w (aDc V l w):=by
 have HT:=Z T;clear T;obtain⟨i9,a8,bj,bf,a5⟩:=cx Tryz.info9;obtain⟨bk,a7,bh,be,a4⟩:=cx Tryz.info39;obtain⟨a,c,rfl,_⟩:=hA.o;go_enter Tryz.func38,Tryz.ntmps38;go_wp2;go_loopw [5,6,13] (fun o n i wx=>∃(k:Nat) (sn:List I) (done:List AT),i=.int .i64 k/\G (nF V l k sn done)/\G (aF w.heap.size 39 2 o done.length (bM done) w wx)/\G (aF w.heap.size 9 1 n sn.length (sn.map nM) w wx)/\G (nX n o)) (fun _ _ i _=>l.length-(intOf i).toNat);case atStart=>exact⟨0,[],[],rfl,Z (nF.start V l),Z (aF.nil w 39 2),Z (aF.nil w 9 1),Z (nX.nil _)⟩
 case round =>
  obtain⟨k,sn,done,rfl,f,N,hN,P⟩:=hrel;have hk:=f.o.le;have bq:=f.o.sl;have bl:=f.o.dl;rcases ak k l.length with z|a6;{obtain⟨g,off,c',hva,c1,c2⟩:=(hA.o.below N.o.bel (ah _)).get k z;simp only[ce,fk]at hva;obtain⟨rfl,rfl⟩:=hva;have an:=Z (f.o.old z);have a1:=Z (fun t=>f.o.yes (t:=t) z);have ad:=Z (f.o.no z);have B:=Z (hs.o l[k] (dz z));generalize l[k]=q at *;obtain⟨b,s⟩:=q;simp only at c1 c2;obtain⟨W1,j⟩:=ex (wr.alloc (.cells #[.string b,.string s] 39));have M:Below wr.heap.size wr W1:=by{rw[j];exact(am _ wr).alloc (ah _) _};have HO1:=Z (N.o.keep M);have HN1:=Z (hN.o.keep M);have b1:W1.cell? ⟨wr.heap.size,0,none⟩=some (.string b):=by{rw[j,au _ _ 0 _ 39 (0,0) (cc wr _)];rfl};have b2:W1.cell? ⟨wr.heap.size,1,none⟩=some (.string s):=by{rw[j,au _ _ 1 _ 39 (0,0) (cc wr _)];rfl};have a9:wr.heap.size<W1.heap.size:=by{rw[j];simp};have aa:=Z j;clear j;by_cases m:b∈sn;{have C:=sG _ sn b W1 (by omega) HN1.o.vec true ((il _ _).2 m);have E:=Z C;have HF:=Z (an.o m);clear C m;go_wp2_with fail;rw[<-aa.o];refine E.o.mono ?_;rintro x w' ⟨rfl,rfl⟩;go_wp2;go_roundw;(case rel=>exact⟨k+1,sn,done,by go_num,HF,HO1,HN1,P⟩);case measure=>simp[intOf];omega};{have C:=sG _ sn b W1 (by omega) HN1.o.vec false (by cases h:Lib.containsS sn b with|false=>rfl|true=>exact absurd ((il _ _).1 h) m);have E:=Z C;have W:=Z m;have a0:=Z (hV.o b s B.o.1 B.o.2);clear C m;go_wp2_with fail;rw[<-aa.o];refine E.o.mono ?_;rintro x w' ⟨rfl,rfl⟩;go_wp2_with (at_builtin;refine aU (by rfl) _ _ 55 (by rfl) 9 i9 (.string ⟨#[]⟩) 1 16 Tryz.underlying55 a8 bj bf a5 rfl (by decide) _ _ _ rfl HN1.o #[.string b] rfl rfl rfl rfl (by omega) (by omega) ?_);intro bs u a2 D;have X:=Z (D.o.other (HO1.o.alloc _) P.o HN1.o.lo);have J:=Z (D.o.apart (HO1.o.alloc _) P.o);have Q:=hN.o.hi;have K:u.cell? ⟨wr.heap.size,0,none⟩=some (.string b):=D.o.cell (oE b1) (fun e=>absurd (Q _ e) (mc _));have d2:u.cell? ⟨wr.heap.size,1,none⟩=some (.string s):=D.o.cell (oE b2) (fun e=>absurd (Q _ e) (mc _));have bd:wr.heap.size<u.heap.size:=dx _ _ K;have aw:=Z (HT.o.below X.o.bel (ah _));clear Q b1 b2 a9 M;go_wp2_with fail;refine(zO e b s _ he (by have:=B.o.1;omega) B.o.2 a0.o u aw.o).mono ?_;rintro x W3 ⟨rfl,A⟩;have HO3:=Z (X.o.keep A);have F:=Z (a2.o.keep A);have f1:W3.cell? ⟨wr.heap.size,0,none⟩=some (.string b):=by{rw[A.cell (p:=⟨wr.heap.size,0,none⟩) bd];exact K};clear K d2 A;cases hv:V b s with|none=>{have HF:=Z (ad.o W.o hv);unfold kK;clear hv;go_wp2;go_roundw;(case rel=>exact⟨k+1,sn++[b],done,by go_num,HF,HO3,Z (F.o.cast (by simp) (by simp[nM])),J⟩);case measure=>simp[intOf];omega}|some t=>{have HF:=Z (a1.o t W.o hv);unfold kK;clear hv;go_wp2_with (at_builtin;refine aU (by rfl) _ _ 33 (by rfl) 39 bk (.agg #[.string ⟨#[]⟩,.string ⟨#[]⟩]) 2 32 Tryz.underlying33 a7 bh be a4 rfl (by decide) _ _ _ rfl HO3.o #[.string b,.string t] rfl rfl rfl rfl (by omega) (by omega) ?_);intro bx W4 a3 ab;have ac:=Z (ab.o.other (F.o.alloc _) J.o.symm HO3.o.lo);have ao:=Z ((ab.o.apart (F.o.alloc _) J.o.symm).symm);go_wp2;go_roundw;(case rel=>exact⟨k+1,sn++[b],done++[(b,t)],by go_num,HF,Z (a3.o.cast (by simp) (by rw[tL];rfl)),Z (ac.o.cast (by simp) (by simp[nM])),ao⟩);case measure=>simp[intOf];omega}}}
  ·have R:=Z (f.o.done a6);have S:=aMY _ done w wr _ N.o (by omega);have HS:=Z S;clear S;go_wp2_with fail
   refine HS.o.mono ?_;rintro x u ⟨rfl,r,L,h2,h3⟩;have HR:G (mO V l r):=⟨by rw[R.o];exact L,by
    have h4:=aKt (d:=r.toArray) (by simpa using h2) (by
     have h5:=aAs V l [];rw[R.o]at h5
     exact(L.pairwise_iff (fun {x y} hxy e=>hxy e.symm)).2 h5)
    simpa using h4⟩
   have al:=Z h3;clear L h2 h3;go_wp2;go_ret;exact⟨_,r,rfl,HR.o,al.o⟩
structure aNg (e:I) (V:I->I->Option I):Prop where
 val:∀n v,n.size<=1048576->v.size<=1048576->iM e n v (V n v)
 big:∀n v t,V n v=some t->n.size<=1048576/\v.size<=1048576
 again:∀n v t,V n v=some t->V n t=some t
theorem aRM (i:H)(j:aA i)(e:I)(l:e.size<=1000000000):∃V,aNg e V:=by
 have h:∀x:AT,∃o:Option I,(x.1.size<=1048576/\x.2.size<=1048576->iM e x.1 x.2 o)/\(¬(x.1.size<=1048576/\x.2.size<=1048576)->o=none):=by{intro x;by_cases hx:x.1.size<=1048576/\x.2.size<=1048576;{obtain⟨o,p⟩:=aK7 i j e x.1 x.2 hx.2;exact⟨o,fun _=>p,fun m=>absurd hx m⟩};{exact⟨none,fun q=>absurd q hx,fun _=>rfl⟩}};obtain⟨f,c⟩:=tt h;have k:∀n v t,f (n,v)=some t->n.size<=1048576/\v.size<=1048576:=fun n v t a=>by{by_cases hx:n.size<=1048576/\v.size<=1048576;{exact hx};{rw[(c (n,v)).2 hx]at a;cases a}};refine⟨fun n v=>f (n,v),fun n v b d=>(c (n,v)).1 ⟨b,d⟩,k,fun n v t a=>?_⟩;obtain⟨b,d⟩:=k n v t a;have g:=(c (n,v)).1 ⟨b,d⟩;simp only[a]at g;have u:=aCA g;have r:=aGQ g;have s:=(c (n,t)).1 ⟨b,by show t.size<=1048576;omega⟩;exact aDO i j l (show n.size<=1000000000 by omega) (show t.size<=1048576 by omega) s r
