/-
policy.link and refs.Escape: what they answer.
-/
import Derived.Test.YtcfgbdhpcboikaaGreatDoorLinkW
import Derived.Test.YtcfgbdhpcboikaaGreatDoorAtofC
import Derived.Test.YtcfgbdhpcboikaaGreatDoorDecV
namespace Go.Proofs.YtcfgbdhpcboikaaGreatDoor
set_option maxHeartbeats 4000000
set_option maxRecDepth 100000
open Go.RowKit
theorem mA {n:Nat}:n<=n:=ag n
theorem uW {a w v:H}(h:G (Go.RowKit.Below a.heap.size a w))(b:Go.RowKit.Below w.heap.size w v):G (Go.RowKit.Below a.heap.size a v):=Z (h.o.trans (b.mono h.o.size))
def fQ (zs:List I)(l:U):Bool:=match iL l with
 | none=>true
 | some w=>Lib.containsS zs ⟨w.toArray⟩
def rO (w:H)(g off:Nat)(zs:List I):Prop:=∀j,j<zs.length->w.cell? ⟨g,off+j,none⟩=some (.string (zs.getD j ByteArray.empty))
theorem rO.below {w w':H}{g a B:Nat}{zs:List I}(h:rO w g a zs)(b:Below B w w')(c:g<B):rO w' g a zs:=by
 intro j d;rw[b.cell (p:=⟨g,a+j,none⟩) c];exact h j d
theorem aAl (l:U):(cG l).length<=3*l.length:=bg (aNf l).length_le (pC l)
theorem aEo (s:I)(F:s.size<=1000000000)(g i n c:Nat)(zs:List I)(P:zs.length=n)(Q:n<=1000)(w:H)(T:aA w)(J:G (rO w g i zs))(B:g<w.heap.size)(b:Bool)(a:G (fQ zs (cG s.data.toList)=b)) :
  Y 143 #[.string s,.slice (some ⟨g,i,none⟩) n c] w (O (.tuple #[.string ⟨(cG s.data.toList).toArray⟩,.bool b]) w):=by
 have q:=Z T;clear T;have D:=aAl s.data.toList;have E:s.data.toList.length=s.size:=rfl;have r:(⟨(cG s.data.toList).toArray⟩:I).size<4294967281:=by{rw[lF];omega};have p:=Z r;clear r D E;obtain⟨L,h⟩:∃L,cG s.data.toList=L:=⟨_,rfl⟩;have K:=fun w T=>aNe s F w T;rw[h]at K p;have y:=Z K;have t:=Z (show fQ zs L=b by rw[<-h];exact a.o);rw[h];clear K h a;go_enter Tryz.func143,Tryz.ntmps143;go_wp2_with fail
 refine(y.o w q.o).mono ?_;rintro e A ⟨rfl,m⟩;have j:=Z m;have z:=Z (q.o.below j.o mA);clear m;have S:=aJm ⟨L.toArray⟩ p.o A z.o;have a:=t.o;unfold fQ at a;cases hsc:iL L with
 | none =>
  rw[show kS (⟨L.toArray⟩:I).data.toList=.tuple #[.string ⟨#[]⟩,.bool false]from iZ hsc]at S
  have k:=Z S;rw[hsc]at a
  subst a;clear S hsc;go_wp2_with fail
  refine k.o.mono ?_;rintro e l ⟨rfl,d⟩;have f:=uW j d;clear d;go_wp2
  go_ret2;exact⟨rfl,f.o⟩
 | some x =>
  rw[show kS (⟨L.toArray⟩:I).data.toList=.tuple #[.string ⟨x.toArray⟩,.bool true]from qE hsc]at S
  have k:=Z S;rw[hsc]at a
  have u:G (Lib.containsS zs ⟨x.toArray⟩=b):=a;clear S hsc a;go_wp2_with fail
  refine k.o.mono ?_;rintro e l ⟨rfl,d⟩;have f:=uW j d;clear d;have M:G (rO l g i zs):=J.o.below f.o B;have C:=Tryz.slices_Contains_string g i n c zs ⟨x.toArray⟩ l (by omega) (by omega) M.o;rw[cy (by omega),u.o]at C
  have v:=Z C;clear C;go_wp2_with fail
  refine v.o.mono ?_;rintro e N ⟨rfl,rfl⟩;go_wp2
  all_goals
   go_ret2;exact⟨rfl,f.o⟩
theorem aGE (a b:U)(h:1<=a.length):∀(k:Nat) (s:U),(Lib.replaceK a b k s).length<=s.length+k*b.length:=by
 intro k;induction k with|zero=>{intro s;simp[Lib.replaceK]}|succ k ih=>{intro s;rw[mh];by_cases hi:Lib.index s a=-1;{unfold Lib.replaceK;rw[ae (by rw[hi];rfl)];omega};{have d:=sq s a;obtain⟨i,c⟩:∃i:Nat,Lib.index s a=i:=⟨(Lib.index s a).toNat,by omega⟩;rw[kt a b k s i c];have:=ih (s.drop (i+a.length));have hr:=Lib.index_room s a (by omega);rw[aw,aw,br];rw[bn]at this;omega}}
theorem aDY (s a b:I)(h:1<=a.size):(Lib.replaceAll s.data.toList a.data.toList b.data.toList).length<=s.size*(1+b.size):=by
 unfold Lib.replaceAll Lib.replace;have e:=Lib.countB_le a h s.size s mA;have c:s.size=s.data.toList.length:=rfl;have d:b.size=b.data.toList.length:=rfl;split;{rw[c,f8];omega};{have g:Lib.replaceNum s.data.toList a.data.toList (-1)=Lib.count s.data.toList a.data.toList:=by{unfold Lib.replaceNum;rw[ae (Or.inl (by omega))]};rw[g];have i:=aGE a.data.toList b.data.toList h (Lib.count s.data.toList a.data.toList) s.data.toList;have f:Lib.count s.data.toList a.data.toList<=s.size:=e;have j:Lib.count s.data.toList a.data.toList*b.data.toList.length<=s.size*b.data.toList.length:=au _ f;rw[f8,d];omega}
def pM:I:=⟨#[38,97,109,112,59]⟩
def bNb:I:=⟨#[38,110,98,115,112,59]⟩
def bLt:I:=⟨#[38,108,116,59]⟩
def bGt:I:=⟨#[38,103,116,59]⟩
def bQ:I:=⟨#[38,113,117,111,116,59]⟩
def eO (s old new:I):I:=⟨(Lib.replaceAll s.data.toList old.data.toList new.data.toList).toArray⟩
theorem yV (s b a:I)(h:1<=b.size):(eO s b a).size<=s.size*(1+a.size):=aDY s b a h
theorem wT (s a b:I)(w:H)(T:aA w)(g:s.size<4294967281)(c:1<=a.size)(d:b.size<=10) :
  Y 80 #[.string s,.string a,.string b] w (O (.string (eO s a b)) w):=by
 obtain⟨m,f⟩:=T.most;refine Tryz.strings_ReplaceAll s a b m w g f c ?_;have e:=Lib.countB_le a c s.size s mA;have h:Lib.countB s a*b.size<=s.size*10:=ia e d;omega
def iQ (s:I):I:=eO (eO (eO (eO (eO s ⟨#[38]⟩ pM) ⟨#[194,160]⟩ bNb) ⟨#[60]⟩ bLt) ⟨#[62]⟩ bGt) ⟨#[34]⟩ bQ
theorem aHY (s:I)(N:s.size<=4000000)(w:H)(T:aA w):Y 84 #[.string s,.bool true] w (O (.string (iQ s)) w):=by
 have r:=yV s ⟨#[38]⟩ pM (by decide);have t:=yV (eO s ⟨#[38]⟩ pM) ⟨#[194,160]⟩ bNb (by decide);have u:=yV (eO (eO s ⟨#[38]⟩ pM) ⟨#[194,160]⟩ bNb) ⟨#[60]⟩ bLt (by decide);have v:=yV (eO (eO (eO s ⟨#[38]⟩ pM) ⟨#[194,160]⟩ bNb) ⟨#[60]⟩ bLt) ⟨#[62]⟩ bGt (by decide);have x:pM.size=5:=rfl;have y:bNb.size=6:=rfl;have e3:bLt.size=4:=rfl;have e4:bGt.size=4:=rfl;rw[x]at r;rw[y]at t;rw[e3]at u;rw[e4]at v;have a:=Z T;have l:=Z (fun w T=>wT s ⟨#[38]⟩ pM w T (by omega) (by decide) (by decide));have m:=Z (fun w T=>wT (eO s ⟨#[38]⟩ pM) ⟨#[194,160]⟩ bNb w T (by omega) (by decide) (by decide));have n:=Z (fun w T=>wT (eO (eO s ⟨#[38]⟩ pM) ⟨#[194,160]⟩ bNb) ⟨#[60]⟩ bLt w T (by omega) (by decide) (by decide));have p:=Z (fun w T=>wT (eO (eO (eO s ⟨#[38]⟩ pM) ⟨#[194,160]⟩ bNb) ⟨#[60]⟩ bLt) ⟨#[62]⟩ bGt w T (by omega) (by decide) (by decide));have q:=Z (fun w T=>wT (eO (eO (eO (eO s ⟨#[38]⟩ pM) ⟨#[194,160]⟩ bNb) ⟨#[60]⟩ bLt) ⟨#[62]⟩ bGt) ⟨#[34]⟩ bQ w T (by omega) (by decide) (by decide));have z:iQ s=eO (eO (eO (eO (eO s ⟨#[38]⟩ pM) ⟨#[194,160]⟩ bNb) ⟨#[60]⟩ bLt) ⟨#[62]⟩ bGt) ⟨#[34]⟩ bQ:=rfl;rw[z];clear r t u v x y e3 e4 T z;generalize eO s ⟨#[38]⟩ pM=s1 at *;generalize eO s1 ⟨#[194,160]⟩ bNb=s2 at *;generalize eO s2 ⟨#[60]⟩ bLt=s3 at *;generalize eO s3 ⟨#[62]⟩ bGt=s4 at *;generalize eO s4 ⟨#[34]⟩ bQ=s5 at *;unfold pM at l;unfold bNb at m;unfold bLt at n;unfold bGt at p;unfold bQ at q;go_enter Tryz.func84,Tryz.ntmps84;go_wp2_with fail;refine(l.o w a.o).mono ?_;rintro e F ⟨rfl,b⟩;have h:=Z b;have B:=Z (a.o.below h.o mA);clear b;go_wp2_with fail;refine(m.o F B.o).mono ?_;rintro e J ⟨rfl,c⟩;have i:=uW h c;have C:=Z (a.o.below i.o mA);clear c;go_wp2_with fail;refine(n.o J C.o).mono ?_;rintro e K ⟨rfl,d⟩;have j:=uW i d;have D:=Z (a.o.below j.o mA);clear d;go_wp2_with fail;refine(p.o K D.o).mono ?_;rintro e L ⟨rfl,f⟩;have k:=uW j f;have E:=Z (a.o.below k.o mA);clear f;go_wp2_with fail;refine(q.o L E.o).mono ?_;rintro e M ⟨rfl,g⟩;have A:=uW k g;clear g;go_wp2;go_ret;exact⟨rfl,A.o⟩
open Go.RowKit
def cX (e n v:I)(t:I)(ok:Bool):Prop:=∀w,aA w->Y 83 #[.string e,.string n,.string v] w (O (.tuple #[.string t,.bool ok]) w)
theorem aL7 (e n v:I)(k:Int)(a:G (aZ e k))(h:k<2\/k=14)(w:H) :
  Y 37 #[.string e,.string n,.string v] w (O (.tuple #[.string ⟨#[]⟩,.bool false]) w):=by
 rcases h with h|h;{have b:decide (k<2)=true:=by{simpa using h};clear h;go_enter Tryz.func37,Tryz.ntmps37;go_wp2_with fail;refine(a.o _).mono ?_;rintro x w' ⟨rfl,rfl⟩;go_wp2;go_ret2;exact⟨rfl,aj _ _⟩};{subst h;go_enter Tryz.func37,Tryz.ntmps37;go_wp2_with fail;refine(a.o _).mono ?_;rintro x w' ⟨rfl,rfl⟩;go_wp2;go_ret2;exact⟨rfl,aj _ _⟩}
theorem aOe (e n v t:I)(k:Int)(g:G (aZ e k))(b:¬k<2)(i:(k==14)=false)(f:G (cX e n v t false))(w:H)(T:aA w) :
  Y 37 #[.string e,.string n,.string v] w (O (.tuple #[.string ⟨#[]⟩,.bool false]) w):=by
 have j:decide (k<2)=false:=by{simpa using b};have d:=Z T;clear b T;go_enter Tryz.func37,Tryz.ntmps37;go_wp2_with fail;refine(g.o _).mono ?_;rintro x w' ⟨rfl,rfl⟩;go_wp2_with fail;refine(f.o _ d.o).mono ?_;rintro x h ⟨rfl,a⟩;have c:=Z a;clear a;go_wp2;go_ret2;exact⟨rfl,c.o⟩
theorem aJJ (e n v t:I)(k:Int)(p:G (aZ e k))(f:¬k<2)(s:(k==14)=false)(m:G (cX e n v t true))(q:t.size<=4000000)(l:G (120<(iQ t).size))(w:H)(T:aA w) :
  Y 37 #[.string e,.string n,.string v] w (O (.tuple #[.string ⟨#[]⟩,.bool false]) w):=by
 have y:decide (k<2)=false:=by{simpa using f};have d:=Z T;have hx:120<(iQ t).size:=l.o;have E:=aHY t q;generalize iQ t=u at hx E;have h:=Z E;clear f T E;go_enter Tryz.func37,Tryz.ntmps37;go_wp2_with fail;refine(p.o _).mono ?_;rintro x w' ⟨rfl,rfl⟩;go_wp2_with fail;refine(m.o _ d.o).mono ?_;rintro x j ⟨rfl,a⟩;have c:=Z a;have i:=Z (d.o.below c.o mA);clear a;go_wp2_with fail;refine(h.o j i.o).mono ?_;rintro x r ⟨rfl,b⟩;have g:=uW c b;clear b;have z:decide ((120:Int)<(u.size:Int))=true:=by{simp;omega};go_wp2;go_ret2;exact⟨rfl,g.o⟩
theorem aL8 (e n v t:I)(k:Int)(p:G (aZ e k))(f:¬k<2)(s:(k==14)=false)(m:G (cX e n v t true))(q:t.size<=4000000)(l:G ((iQ t).size<=120))(w:H)(T:aA w) :
  Y 37 #[.string e,.string n,.string v] w (O (.tuple #[.string t,.bool true]) w):=by
 have y:decide (k<2)=false:=by{simpa using f};have d:=Z T;have hx:(iQ t).size<=120:=l.o;have E:=aHY t q;generalize iQ t=u at hx E;have h:=Z E;clear f T E;go_enter Tryz.func37,Tryz.ntmps37;go_wp2_with fail;refine(p.o _).mono ?_;rintro x w' ⟨rfl,rfl⟩;go_wp2_with fail;refine(m.o _ d.o).mono ?_;rintro x j ⟨rfl,a⟩;have c:=Z a;have i:=Z (d.o.below c.o mA);clear a;go_wp2_with fail;refine(h.o j i.o).mono ?_;rintro x r ⟨rfl,b⟩;have g:=uW c b;clear b;have z:decide ((120:Int)<(u.size:Int))=false:=by{simp;omega};go_wp2;go_ret2;exact⟨rfl,g.o⟩
def bM:I:=⟨#[116,105,116,108,101]⟩
def vM:I:=⟨#[104,114,101,102]⟩
def sA:I:=⟨#[97]⟩
theorem aIQ (e v:I)(d:v.size<=1000000000):cX e bM v ⟨(cI v.data.toList).toArray⟩ true:=by
 intro w T;have c:=Z (uR v d w T);clear T;unfold bM;go_enter Tryz.func83,Tryz.ntmps83;go_wp2_with fail;refine c.o.mono ?_;rintro x f ⟨rfl,a⟩;have b:=Z a;clear a;go_wp2;go_ret2;exact⟨rfl,b.o⟩
open Go.RowKit
theorem aSc:(⟨#[97]⟩:I)++⟨#[32]⟩=⟨#[97,32]⟩:=by decide
theorem aJ7:(⟨#[97,32]⟩:I)++⟨#[104,114,101,102]⟩=⟨#[97,32,104,114,101,102]⟩:=by decide
def rK:List I:=[⟨#[104,116,116,112]⟩,⟨#[104,116,116,112,115]⟩,⟨#[109,97,105,108,116,111]⟩]
theorem aCI (v:I)(b:Bool)(h:G (fQ rK (cG v.data.toList)=b))(i:v.size<=1000000000):cX sA vM v ⟨(cG v.data.toList).toArray⟩ b:=by
 intro w T;have g:=Z T;clear T;unfold sA vM;have c1:=aSc;have c2:=aJ7;go_enter Tryz.func83,Tryz.ntmps83;go_wp2_with fail
 have a:Below w.heap.size w (w.alloc (.cells #[Value.string ⟨#[104,116,116,112]⟩,Value.string ⟨#[104,116,116,112,115]⟩,Value.string ⟨#[109,97,105,108,116,111]⟩] 9)):=(aj _ w).alloc mA _;have e:rO (w.alloc (.cells #[Value.string ⟨#[104,116,116,112]⟩,Value.string ⟨#[104,116,116,112,115]⟩,Value.string ⟨#[109,97,105,108,116,111]⟩] 9)) w.heap.size 0 rK:=by
  intro j c;rw[be,aq _ w.heap.size j _ 9 (0,0) (bi w _)];have:∀j<3,(#[Value.string ⟨#[104,116,116,112]⟩,Value.string ⟨#[104,116,116,112,115]⟩,Value.string ⟨#[109,97,105,108,116,111]⟩]:Array Value)[j]?=some (Value.string (rK.getD j ByteArray.empty)):=by
   intro j c;match j,c with
   | 0,_=>rfl
   | 1,_=>rfl
   | 2,_=>rfl
  exact this j c
 refine(aEo v i w.heap.size 0 3 3 rK rfl (by omega) _ (g.o.below a mA) e (by simp) b h).mono ?_;rintro x k ⟨rfl,d⟩;have f:=Z (a.trans (d.mono (by simp)));clear d a e;go_wp2;go_ret2;exact⟨rfl,f.o⟩
def v1:I:=⟨#[72,84,84,80,58,47,47,97]⟩
def v2:I:=⟨#[32,74,97,118,97,9,83,99,114,105,112,116,58,120]⟩
open Go.RowKit
def rG:I:=⟨#[108,97,110,103]⟩
def yZ:I:=⟨#[100,105,114]⟩
def aAz:I:=⟨#[115,114,99]⟩
def fS:I:=⟨#[105,109,103]⟩
def aAw:I:=⟨#[97,108,116]⟩
def nM:I:=⟨#[104,101,105,103,104,116]⟩
def qC:I:=⟨#[119,105,100,116,104]⟩
def sOl:I:=⟨#[111,108]⟩
def qB:I:=⟨#[115,116,97,114,116]⟩
def sTd:I:=⟨#[116,100]⟩
def sTh:I:=⟨#[116,104]⟩
def iX:I:=⟨#[99,111,108,115,112,97,110]⟩
def iY:I:=⟨#[114,111,119,115,112,97,110]⟩
def eF:I:=⟨#[109,101,116,101,114]⟩
def gI:I:=⟨#[112,114,111,103,114,101,115,115]⟩
def uN:I:=⟨#[109,97,120]⟩
def mW:I:=⟨#[118,97,108,117,101]⟩
def zB:I:=⟨#[104,105,103,104]⟩
def aBZ:I:=⟨#[108,111,119]⟩
def aB0:I:=⟨#[109,105,110]⟩
def vL:I:=⟨#[97,117,116,111]⟩
def aAx:I:=⟨#[108,116,114]⟩
def aAy:I:=⟨#[114,116,108]⟩
def aSF:I:=⟨#[104,116,116,112]⟩
def aRN:I:=⟨#[104,116,116,112,115]⟩
inductive FK where
 | text|lang|dir|linkA|linkI|whole (lo hi:Nat)|fix|none
deriving DecidableEq
def gL (e n:I):Bool:=(decide (e=eF)&&(decide (n=uN)||decide (n=mW)||decide (n=zB)||decide (n=aBZ)||decide (n=aB0)))||(decide (e=gI)&&(decide (n=uN)||decide (n=mW)))
def bJ (e n:I):FK :=
 if n=bM then .text else if n=rG then .lang else if n=yZ then .dir
 else if e=sA/\n=vM then .linkA
 else if e=fS/\n=aAz then .linkI
 else if e=fS/\n=aAw then .text
 else if e=fS/\(n=nM\/n=qC)then .whole 0 9999
 else if e=sOl/\n=qB then .whole 0 999999
 else if (e=sTd\/e=sTh)/\(n=iX\/n=iY)then .whole 1 1000
 else if gL e n=true then .fix
 else .none
def wN (c:UInt8):Bool:=(decide (97<=c.toNat)&&decide (c.toNat<=122))||(decide (65<=c.toNat)&&decide (c.toNat<=90))
def qZ (c:UInt8)(i:Nat):Bool:=wN c||(decide (0<i)&&(decide (c.toNat=45)||(decide (48<=c.toNat)&&decide (c.toNat<=57))))
def aA1 (l:U):Prop:=∀j (h:j<l.length),qZ l[j] j=true
def oJ (v:I):Prop:=aA1 v.data.toList/\1<=v.size/\v.size<=16
def aBG (v:I):Prop:=v=vL\/v=aAx\/v=aAy
def aRX (lo hi:Nat)(v:I):Prop:=∃x,fL v lo hi x true
def dR (v:I):I:=⟨(cH v.data.toList).toArray⟩
def wF:List I:=[aSF,aRN]
structure aIp (v t:I):Prop where
 sz:t.size<=25
 num:cW t.data.toList=true
 yes:∀w,aA w->Y 20 #[.string v] w (O (.tuple #[.string t,.bool true]) w)
 again:∀w,aA w->Y 20 #[.string t] w (O (.tuple #[.string t,.bool true]) w)
def aIq (v:I):Prop:=∀w,aA w->Y 20 #[.string v] w (O (.tuple #[.string ⟨#[]⟩,.bool false]) w)
def sJ (k:FK)(v:I):Option I->Prop
 | some t=>match k with
  | .text=>t=dK v
  | .lang=>oJ v/\t=v
  | .dir=>aBG (dR v)/\t=dR v
  | .linkA=>fQ rK (cG v.data.toList)=true/\t=jU v
  | .linkI=>fQ wF (cG v.data.toList)=true/\t=jU v
  | .whole lo hi=>aRX lo hi v/\t=v
  | .fix=>aIp v t
  | .none=>False
 | none=>match k with
  | .text=>False
  | .lang=>¬oJ v
  | .dir=>¬aBG (dR v)
  | .linkA=>fQ rK (cG v.data.toList)=false
  | .linkI=>fQ wF (cG v.data.toList)=false
  | .whole lo hi=>∃x,fL v lo hi x false
  | .fix=>aIq v
  | .none=>True
def jQ (e n v:I)(o:Option I):Prop :=
 match o with
 | some t=>¬(aS e.data.toList<2\/aS e.data.toList=14)/\sJ (bJ e n) v (some t)/\(iQ t).size<=120
 | none=>(aS e.data.toList<2\/aS e.data.toList=14)\/sJ (bJ e n) v none\/∃t,sJ (bJ e n) v (some t)/\120<(iQ t).size
theorem aKk {v:I}(h:aBG v):dR v=v:=by
 rcases h with rfl|rfl|rfl<;>exact eY (by decide)
theorem aIP {k:FK}{v t:I}(h:sJ k v (some t)):sJ k t (some t):=by
 cases k with|text=>{subst h;exact(aJw v).symm}|lang=>{obtain⟨a,rfl⟩:=h;exact⟨a,rfl⟩}|dir=>{obtain⟨a,b⟩:=h;rw[<-b]at a;have e:=aKk a;exact⟨by rw[e];exact a,e.symm⟩}|linkA=>{obtain⟨a,rfl⟩:=h;exact⟨by rw[sX,aAk];exact a,(aCP v).symm⟩}|linkI=>{obtain⟨a,rfl⟩:=h;exact⟨by rw[sX,aAk];exact a,(aCP v).symm⟩}|whole lo hi=>{obtain⟨a,rfl⟩:=h;exact⟨a,rfl⟩}|fix=>exact⟨h.sz,h.num,h.again,h.again⟩|none=>exact h
theorem aHL {e n v t:I}(h:jQ e n v (some t)):jQ e n t (some t):=⟨h.1,aIP h.2.1,h.2.2⟩
open Go.RowKit
def wH (l:U)(k:Nat):Prop:=k<=l.length/\∀j (h:j<l.length),j<k->qZ l[j] j=true
theorem wH.step {l:U}{k:Nat}(h:wH l k)(d:k<l.length)(b:qZ l[k] k=true):wH l (k+1) :=
 ⟨d,fun j c e=>by
  rcases ak j k with a|a
  ·exact h.2 j c a
  ·obtain rfl:j=k:=by omega
   exact b⟩
theorem aNc {l:U}{k:Nat}(b:k<l.length)(a:qZ l[k] k=false):¬aA1 l:=fun h=>by
 have:=h k b;rw[a]at this
 cases this
theorem aGa (c:UInt8)(d k:Nat)(h:c.toNat=d):qZ c k=(((decide (97<=d)&&decide (d<=122))||(decide (65<=d)&&decide (d<=90)))||(decide (0<k)&&(decide (d=45)||(decide (48<=d)&&decide (d<=57))))):=by
 unfold qZ wN;rw[h]
structure aBz (v:I) (k d:Nat):Prop where
 yes:(((decide (97<=d)&&decide (d<=122))||(decide (65<=d)&&decide (d<=90)))||(decide (0<k)&&(decide (d=45)||(decide (48<=d)&&decide (d<=57)))))=true->wH v.data.toList (k+1)
 no:(((decide (97<=d)&&decide (d<=122))||(decide (65<=d)&&decide (d<=90)))||(decide (0<k)&&(decide (d=45)||(decide (48<=d)&&decide (d<=57)))))=false->¬oJ v
theorem aBz.of (v:I)(k d:Nat)(a:k<v.data.toList.length)(h:wH v.data.toList k)(hd:v.data.toList[k].toNat=d):aBz v k d :=
 ⟨fun c=>by rw[<-aGa _ d k hd]at c;exact h.step a c,fun b e=>by rw[<-aGa _ d k hd]at b;exact aNc a b e.1⟩
theorem aNb (v:I)(X:v.size<=140737488355328)(b:Bool)(u:G (b=true↔oJ v))(w:H):Y 142 #[.string v] w (O (.bool b) w):=by
 obtain⟨cap,W,L,x,y,E,M⟩:=sP v w;have f:=Z x;have C:G (cP W w.heap.size 0 v.data.toList):=y;have l:G (¬oJ v->b=false):=fun h=>by{cases b with|false=>rfl|true=>exact absurd (u.o.1 rfl) h};clear x y E M;go_enter Tryz.func142,Tryz.ntmps142;go_wp2;clear L;go_loop [2,9] (fun r i=>r=.bool false/\∃k:Nat,i=.int .i64 k/\G (wH v.data.toList k)) (fun _ i=>v.size-(intOf i).toNat);case atStart=>exact⟨rfl,0,rfl,Z ⟨ax _,fun j z D=>absurd D (by omega)⟩⟩
 case round =>
  obtain⟨rfl,k,rfl,s⟩:=hrel;rcases ak k v.size with m|V
  ·have J:=C.o k m;obtain⟨d,hd⟩:∃d,(v.data.toList[k]'m).toNat=d:=⟨_,rfl⟩;have g:=Z (aBz.of v k d m s.o hd);have T:d<256:=by{rw[<-hd];exact(v.data.toList[k]'m).toNat_lt};rw[hd,be]at J;clear hd;have F:(97<=d/\d<=122)\/(65<=d/\d<=90)\/d=45\/(48<=d/\d<=57)\/(d<45\/(45<d/\d<48)\/(57<d/\d<65)\/(90<d/\d<97)\/122<d):=by{omega};rcases F with⟨h,c⟩|⟨h,c⟩|rfl|⟨h,c⟩|h;{have a:=Z (g.o.yes (by simp;omega));have n:decide ((d:Int)<=122)=true:=by{simp;omega};go_wp2;go_round;(case rel=>exact⟨rfl,k+1,by go_num,a⟩);case measure=>simp[intOf];omega};{have a:=Z (g.o.yes (by simp;omega));have n:decide ((d:Int)<=90)=true:=by{simp;omega};go_wp2;go_round;(case rel=>exact⟨rfl,k+1,by go_num,a⟩);case measure=>simp[intOf];omega};{rcases g7 k with e|e;{subst e;have a:=Z (l.o (g.o.no (by simp)));go_wp2;go_ret;exact⟨by rw[a.o];rfl,f.o⟩};{have a:=Z (g.o.yes (by simp;omega));have A:((k:Int)==0)=false:=by{rw[ai];omega};go_wp2;go_round;(case rel=>exact⟨rfl,k+1,by go_num,a⟩);case measure=>simp[intOf];omega}};{have R:((d:Int)==45)=false:=by{rw[ai];omega};have S:((d:Int) !=45)=true:=by{rw[db];omega};have n:decide ((d:Int)<=57)=true:=by{simp;omega};rcases g7 k with e|e;{subst e;have a:=Z (l.o (g.o.no (by simp;omega)));go_wp2;go_ret;exact⟨by rw[a.o];rfl,f.o⟩};{have a:=Z (g.o.yes (by simp;omega));have A:((k:Int)==0)=false:=by{rw[ai];omega};go_wp2;go_round;(case rel=>exact⟨rfl,k+1,by go_num,a⟩);case measure=>simp[intOf];omega}}
   ·have R:((d:Int)==45)=false:=by{rw[ai];omega};have S:((d:Int) !=45)=true:=by{rw[db];omega};have a:=Z (l.o (g.o.no (by simp;omega)));rcases g7 k with e|e
    ·subst e;rcases h with h|⟨h,c⟩|⟨h,c⟩|⟨h,c⟩|h
     all_goals
      try have n:decide ((d:Int)<=122)=false:=by simp;omega
      try have P:decide ((d:Int)<=90)=false:=by simp;omega
      try have Q:decide ((d:Int)<=57)=false:=by simp;omega
      go_wp2
      go_ret;exact⟨by rw[a.o];rfl,f.o⟩
    ·have A:((k:Int)==0)=false:=by{rw[ai];omega};rcases h with h|⟨h,c⟩|⟨h,c⟩|⟨h,c⟩|h
     all_goals
      try have n:decide ((d:Int)<=122)=false:=by simp;omega
      try have P:decide ((d:Int)<=90)=false:=by simp;omega
      try have Q:decide ((d:Int)<=57)=false:=by simp;omega
      go_wp2
      go_ret;exact⟨by rw[a.o];rfl,f.o⟩
  {have t:aA1 v.data.toList:=fun j z=>s.o.2 j z (by have:v.data.toList.length=v.size:=rfl;omega);have B:G (1<=v.size/\v.size<=16->b=true):=fun h=>u.o.2 ⟨t,h.1,h.2⟩;have p:G (¬(1<=v.size/\v.size<=16)->b=false):=fun h=>l.o fun K=>h K.2;clear t;rcases ak v.size 1 with q|q;{have a:=Z (p.o (by omega));go_wp2;go_ret;exact⟨by rw[a.o];rfl,f.o⟩};{rcases ak 16 v.size with c|c;{have a:=Z (p.o (by omega));have N:decide ((v.size:Int)<=16)=false:=by{simp;omega};go_wp2;go_ret;exact⟨by rw[a.o];rfl,f.o⟩};{have a:=Z (B.o ⟨q,c⟩);have N:decide ((v.size:Int)<=16)=true:=by{simp;omega};go_wp2;go_ret;exact⟨by rw[a.o];rfl,f.o⟩}}}
open Go.RowKit
theorem aFB (s:I)(t:cW s.data.toList=true):aIo s:=by
 obtain⟨neg,a,q,ev,d,j,N,g,n⟩:=aIW s t;have c:=N.lt;have p:=N.le;have i:=yT s a q N q (b9 c) mA;have y:=mP s a q (b9 c) p;have l:zV s (aU (aR s a q)).mant ((aU (aR s a q)).expo ev) neg (aU (aR s a q)).trunc:=fun w=>aBW s neg a q w d j N ev g
 have f:=aC7 s a q N q (b9 c) mA;have b:=aGT neg (aR s a q) (by omega) i;have o:=aEw (aR s a q) i;have m:∀w B,aF w B aDF->Y 240 #[.pointer (some ⟨B,0,none⟩),.string s] w fun e w'=>e=.returned (.bool true)/\aF w' B (aGK neg (aR s a q) ev)/\aG (· = B) w w' :=
  fun w B h=>aP6 B s neg a q w h d j N ev g
 have x:=f.mant;have u:=aOt (aU (aR s a q)).ndM (by have:=f.ndM;omega);refine aMo s _ _ neg _ d n l (by omega) (aGK neg (aR s a q) ev) ⟨b.len,?_,b.dig,b.head⟩ b.neg ?_ m;{have:=b.le;show(kJ neg (aR s a q)).nd<=800;omega};{intro r k;have v:20<=(aU (aR s a q)).nd:=by{refine fo fun h=>?_;rw[o (by omega)]at k;cases k};refine⟨?_,?_⟩;{show 1<=(kJ neg (aR s a q)).nd;have:=b.nd;omega};{unfold RS.expo;rw[ac r];have:=f.ndM;show(aU (aR s a q)).place+ev-_+19=(aU (aR s a q)).place+ev;omega}}
open Go.RowKit
theorem aH0 (c:H)(d:aA c)(v:I)(k:v.size<=maxLen):(∃t,aIp v t)\/aIq v:=by
 rcases aLa aFB v k with⟨neg,b,i,j⟩|h;{obtain⟨t,a⟩:=aIe neg b i;refine .inl ⟨t,a.sz,?_,fun w T=>aIL v _ t w T j a.pr,a.fx⟩;cases hn:cW t.data.toList with|true=>rfl|false=>{have e:=fun w (_:aA w)=>aBV t w (by have:=a.sz;unfold maxLen;omega) hn;have f:=aCF t c d (fun w T=>eQ (e w T));have g:=a.fx c d;have:=uX (by kernel_rfl) g f;simp at this}};{exact .inr fun w T=>aCF v w T h}
open Go.RowKit
def aR0:List I:=[vL,aAx,aAy]
structure aCb (sm:I) (B k:Nat) (w wx:H):Prop where
 le:k<=3
 no1:1<=k->sm≠vL
 no2:2<=k->sm≠aAx
 no3:3<=k->sm≠aAy
 str:rO wx B 0 aR0
 bel:Below B w wx
 lt:B<wx.heap.size
structure aQx (sm t:I) (b:Bool):Prop where
 yes:aBG sm->sm=t/\true=b
 no:¬aBG sm->t=⟨#[]⟩/\b=false
theorem tL {a c:I}(l:U)(h:a≠c)(b:c.data.toList=l):(a.toList==l)=false:=by
 rw[ai,toList_data,<-b];exact fun e=>h (eY e)
theorem aCp {a c:I}(h:a≠c):¬a.toList=c.toList:=fun e=>h (eY (by rw[toList_data,toList_data]at e;exact e))
theorem aFZ (e v t:I)(b:Bool)(A:v.size<=140737488355328)(p:G (aQx (dR v) t b)):cX e yZ v t b:=by
 intro w T;have S:=fun W=>aEB v A W;rw[show(⟨(cH v.data.toList).toArray⟩:I)=dR v from rfl]at S;generalize dR v=sm at *;have g:=Z S;clear S T;unfold yZ;go_enter Tryz.func83,Tryz.ntmps83;go_upto_region 8 with fail
 have u:G (aCb sm w.heap.size 0 w (w.alloc (.cells #[Value.string ⟨#[97,117,116,111]⟩,Value.string ⟨#[108,116,114]⟩,Value.string ⟨#[114,116,108]⟩] 9))):=by
  refine⟨by omega,by omega,by omega,by omega,?_,(aj _ w).alloc mA _,by simp⟩;intro j q;rw[be,aq _ w.heap.size j _ 9 (0,0) (bi w _)];have:∀j<3,(#[Value.string ⟨#[97,117,116,111]⟩,Value.string ⟨#[108,116,114]⟩,Value.string ⟨#[114,116,108]⟩]:Array Value)[j]?=some (Value.string (aR0.getD j ByteArray.empty)):=by
   intro j q;match j,q with
   | 0,_=>rfl
   | 1,_=>rfl
   | 2,_=>rfl
  exact this j q
 go_loopw [6,7,24] (fun B C i wx=>B=.string ⟨#[]⟩/\C=.bool false/\∃k:Nat,i=.int .i64 k/\G (aCb sm w.heap.size k w wx)) (fun _ _ i _=>3-(intOf i).toNat);case atStart=>exact⟨rfl,rfl,0,rfl,u⟩
 case round =>
  obtain⟨rfl,rfl,k,rfl,a⟩:=hrel;have D:=a.o.le;have y:k=0\/k=1\/k=2\/k=3:=by{omega};rcases y with rfl|rfl|rfl|rfl;{have r:wr.cell? ⟨w.heap.size,0,none⟩=some (.string ⟨#[97,117,116,111]⟩):=a.o.str 0 (by decide);by_cases d:sm=vL;{obtain⟨rfl,rfl⟩:=p.o.yes (.inl d);subst d;unfold vL at *;go_wp2_with fail;refine(g.o _).mono ?_;rintro x f ⟨rfl,c⟩;have l:=Z (a.o.bel.trans (c.mono (b9 a.o.lt)));clear c;go_wp2;go_ret2;exact⟨rfl,l.o⟩};{have s:=tL [97,117,116,111] d rfl;have m:=Z d;clear d;go_wp2_with fail;refine(g.o _).mono ?_;rintro x f ⟨rfl,c⟩;have n:G (aCb sm w.heap.size 1 w f):=⟨by omega,fun _=>m.o,by omega,by omega,a.o.str.below c a.o.lt,a.o.bel.trans (c.mono (b9 a.o.lt)),cf a.o.lt c.size⟩;clear c;go_wp2;go_roundw;(case rel=>exact⟨rfl,rfl,1,by go_num,n⟩);case measure=>simp[intOf]}};{have r:wr.cell? ⟨w.heap.size,1,none⟩=some (.string ⟨#[108,116,114]⟩):=a.o.str 1 (by decide);by_cases d:sm=aAx;{obtain⟨rfl,rfl⟩:=p.o.yes (.inr (.inl d));subst d;unfold aAx at *;go_wp2_with fail;refine(g.o _).mono ?_;rintro x f ⟨rfl,c⟩;have l:=Z (a.o.bel.trans (c.mono (b9 a.o.lt)));clear c;go_wp2;go_ret2;exact⟨rfl,l.o⟩};{have s:=tL [108,116,114] d rfl;have m:=Z d;clear d;go_wp2_with fail;refine(g.o _).mono ?_;rintro x f ⟨rfl,c⟩;have n:G (aCb sm w.heap.size 2 w f):=⟨by omega,fun _=>a.o.no1 (by omega),fun _=>m.o,by omega,a.o.str.below c a.o.lt,a.o.bel.trans (c.mono (b9 a.o.lt)),cf a.o.lt c.size⟩;clear c;go_wp2;go_roundw;(case rel=>exact⟨rfl,rfl,2,by go_num,n⟩);case measure=>simp[intOf]}};{have r:wr.cell? ⟨w.heap.size,2,none⟩=some (.string ⟨#[114,116,108]⟩):=a.o.str 2 (by decide);by_cases d:sm=aAy;{obtain⟨rfl,rfl⟩:=p.o.yes (.inr (.inr d));subst d;unfold aAy at *;go_wp2_with fail;refine(g.o _).mono ?_;rintro x f ⟨rfl,c⟩;have l:=Z (a.o.bel.trans (c.mono (b9 a.o.lt)));clear c;go_wp2;go_ret2;exact⟨rfl,l.o⟩};{have s:=tL [114,116,108] d rfl;have m:=Z d;clear d;go_wp2_with fail;refine(g.o _).mono ?_;rintro x f ⟨rfl,c⟩;have n:G (aCb sm w.heap.size 3 w f):=⟨by omega,fun _=>a.o.no1 (by omega),fun _=>a.o.no2 (by omega),fun _=>m.o,a.o.str.below c a.o.lt,a.o.bel.trans (c.mono (b9 a.o.lt)),cf a.o.lt c.size⟩;clear c;go_wp2;go_roundw;(case rel=>exact⟨rfl,rfl,3,by go_num,n⟩);case measure=>simp[intOf]}}
  ·obtain⟨rfl,rfl⟩:=p.o.no (fun z=>by
    rcases z with h|h|h
    ·exact a.o.no1 (by omega) h
    ·exact a.o.no2 (by omega) h
    ·exact a.o.no3 (by omega) h)
   go_wp2;go_ret2;exact⟨rfl,a.o.bel⟩
