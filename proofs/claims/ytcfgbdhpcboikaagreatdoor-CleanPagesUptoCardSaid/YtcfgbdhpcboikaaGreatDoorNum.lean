/-
real.digits and real.numeral over lists of bytes: which texts are numerals.
-/
import Derived.Test.YtcfgbdhpcboikaaGreatDoorChecked
import GoSem.PinnedTables
import Derived.Test.YtcfgbdhpcboikaaGreatDoorLookW
namespace Go.Proofs.YtcfgbdhpcboikaaGreatDoor
set_option maxHeartbeats 16000000
set_option maxRecDepth 100000
open Go.RowKit
theorem aA2 {n:Nat}:n<=n:=ag n
def aI (c:UInt8):Bool:=decide (48<=c.toNat)&&decide (c.toNat<=57)
def digs (l:U):Nat:=(l.takeWhile aI).length
theorem kP (l:U):digs l<=l.length:=by
 unfold digs;induction l with|nil=>simp|cons c l ih=>{rw[lv];split<;>simp<;>omega}
theorem aAe:∀(l:U) (k:Nat) (h:k<l.length),k<=digs l->aI l[k]=true->k+1<=digs l
 | [],k,h,_,_=>by simp at h
 | c :: l,0,_,_,hd=>by
  have:aI c=true:=hd;simp[digs,this]
 | c :: l,k+1,h,hk,hd=>by
  unfold digs at hk ⊢;rw[lv]at hk ⊢
  split at hk
  ·rename_i a;rw[ae a];have:=aAe l k (by simpa using h) (by simpa [digs]using hk) (by simpa using hd);simp only[bw];unfold digs at this;omega
  ·simp at hk
theorem vA:∀(l:U) (k:Nat),k<=digs l->(∀h:k<l.length,aI l[k]=false)->digs l=k
 | [],k,hk,_=>by simp[digs]at hk ⊢;omega
 | c :: l,0,_,hd=>by
  have:aI c=false:=hd (by simp);simp[digs,this]
 | c :: l,k+1,hk,hd=>by
  unfold digs at hk ⊢;rw[lv]at hk ⊢
  split at hk
  ·rename_i a;rw[ae a];have:=vA l k (by simpa [digs]using hk) (fun h=>hd (by simpa using h));simp only[bw];unfold digs at this;omega
  ·simp at hk
theorem aDZ {a b:Nat}(h:b=a):Ending.returned (.int .i64 (a:Int))=.returned (.int .i64 (b:Int)):=by rw[h]
theorem xW (s:I)(k:Nat)(h:k<s.size):s.data.toList[k]'(by simpa using h)=s[k]:=rfl
theorem aIH (s:I)(w:H)(g:s.size<=maxLen) :
  Y 112 #[.string s] w fun e w'=>e=.returned (.int .i64 (digs s.data.toList:Nat))/\w=w':=by
 unfold maxLen at g;go_enter Tryz.func112,Tryz.ntmps112
 go_wp2
 go_loop [3] (fun i=>∃k:Nat,k<=s.size/\k<=digs s.data.toList/\i=.int .i64 k) (fun i=>s.size-(intOf i).toNat)
 case atStart=>exact⟨0,ax _,ax _,rfl⟩
 case round =>
  obtain⟨k,j,f,rfl⟩:=hrel;have b:=Z f;clear f;by_cases a:k<s.size
  ·by_cases c:48<=s[k].toNat
   ·by_cases d:s[k].toNat<=57
    ·go_wp2
     go_round
     case rel=>exact⟨k+1,by omega,aAe _ k (by simpa using a) b.o (by rw[xW s k a];simp[aI,c,d]),by go_num⟩
     case measure=>simp[intOf];omega
    ·go_wp2
     go_ret;exact⟨aDZ (vA _ k b.o (fun h=>by rw[xW s k a];simp[aI,d])),rfl⟩
   ·go_wp2
    go_ret;exact⟨aDZ (vA _ k b.o (fun h=>by rw[xW s k a];simp[aI,c])),rfl⟩
  ·go_wp2
   go_ret;exact⟨aDZ (vA _ k b.o (fun h=>absurd h (by simpa using a))),rfl⟩
open Go.RowKit
theorem gO (s:I)(n:Nat)(h:n<=s.size) :
  ∃a:I,a.data.toList=s.data.toList.drop n/\a.size=s.size-n/\∀w,(Instr.slice 9 (.string s) (some (.int .i64 n)) none none).run Tryz.prog w=.ok (.string a) w:=by
 refine⟨s.extract n s.size,?_,?_,fun w=>?_⟩;{rw[si];exact cy (by rw[bn];exact ag _)};{simp};{rw[run_slice_string_from_if (P:=Tryz.prog) w 9 s .i64 n Tryz.underlying9,ae (by omega)];simp}
theorem rQ (s:I)(n:Nat)(h:n<=s.size) :
  ∃a:I,a.data.toList=s.data.toList.take n/\a.size=n/\∀w,(Instr.slice 9 (.string s) none (some (.int .i64 n)) none).run Tryz.prog w=.ok (.string a) w:=by
 refine⟨s.extract 0 n,?_,?_,fun w=>?_⟩;{rw[si];simp};{simp;omega};{rw[run_slice_string_to_if (P:=Tryz.prog) w 9 s .i64 n Tryz.underlying9,ae (by omega)];simp}
theorem aY (s:I):s.size=s.data.toList.length:=rfl
theorem sS (s:I)(h:s.size=0):s.data.toList=[]:=fv h
theorem aJD (l:U):Lib.trimPrefix l [45]=if l.head?=some 45 then l.drop 1 else l:=by
 unfold Lib.trimPrefix Lib.hasPrefix;cases l with|nil=>rfl|cons c l=>{by_cases h:c=45;{subst h;simp};{simp[h];intro a;exact absurd a.symm h}}
theorem aPj (l:U):Lib.hasPrefix l [46]=decide (l.head?=some 46):=by
 unfold Lib.hasPrefix;cases l with|nil=>rfl|cons c l=>{by_cases h:c=46;{subst h;simp};{have a:¬(46:UInt8)=c:=fun e=>h e.symm;simp[h,List.isPrefixOf,a]}}
open Go.RowKit
def pV (l:U):Bool :=
 let l5:=if l.head?=some 43\/l.head?=some 45 then l.drop 1 else l
 !l5.isEmpty&&digs l5==l5.length
def lJ (n:Nat)(l:U):Bool :=
 if n=0 then false else if l=[]then true else if l.head?=some 101\/l.head?=some 69 then pV (l.drop 1)else false
def uH (l:U):Bool :=
 if (l.drop (digs l)).head?=some 46 then
  (if digs ((l.drop (digs l)).drop 1)=0 then false else lJ (digs l+digs ((l.drop (digs l)).drop 1)) ((l.drop (digs l)).drop (1+digs ((l.drop (digs l)).drop 1))))
 else lJ (digs l) (l.drop (digs l))
def cW (l:U):Bool:=if 40<l.length then false else uH (if l.head?=some 45 then l.drop 1 else l)
theorem kW (s:I)(n:Nat)(w:H)(b:s.size<=maxLen)(a:digs s.data.toList=n) :
  Y 112 #[.string s] w fun e w'=>e=.returned (.int .i64 n)/\w=w':=by
 subst a;exact aIH s w b
theorem aQt (s s1:I)(w:H)(h:s1.data.toList=if s.data.toList.head?=some 45 then s.data.toList.drop 1 else s.data.toList) :
  Y 117 #[.string s,.string { data:=#[45] }] w fun e w'=>e=.returned (.string s1)/\w=w':=by
 refine(Tryz.strings_TrimPrefix _ _ _).mono ?_;rintro e w' ⟨rfl,rfl⟩;refine⟨?_,rfl⟩;have:Lib.trimPrefix s.data.toList [45]=s1.data.toList:=by rw[aJD,h]
 simp only[this]
theorem aKm (s:I)(b:Bool)(w:H)(h:decide (s.data.toList.head?=some 46)=b) :
  Y 118 #[.string s,.string { data:=#[46] }] w fun e w'=>e=.returned (.bool b)/\w=w':=by
 refine(Tryz.strings_HasPrefix _ _ _).mono ?_;rintro e w' ⟨rfl,rfl⟩;have:Lib.hasPrefix s.data.toList [46]=b:=by rw[aPj,h]
 exact⟨by simp only[this],rfl⟩
theorem aAh (s:I)(h:0<s.size):s.data.toList.head?=some s[0]:=by
 rw[rp,bc (by simpa using h)];rfl
theorem kQ (s:I)(h:s.size=0):s.toList.isEmpty=true:=by rw[qi,sS s h];rfl
theorem eJ (s:I)(h:0<s.size):s.toList.isEmpty=false:=by
 rw[qi,td];intro e;rw[aY,e]at h;exact absurd h (by simp)
theorem aGo (s:I)(w:H)(b:s.size<=maxLen)(h:40<s.size) :
  Y 65 #[.string s] w fun e w'=>e=.returned (.bool (cW s.data.toList))/\w=w':=by
 have a:cW s.data.toList=false:=by unfold cW;rw[ae (by rw[<-aY];exact h)]
 rw[a];clear a;unfold maxLen at b;go_enter Tryz.func65,Tryz.ntmps65
 go_wp2
 go_ret;exact⟨rfl,rfl⟩
theorem aNp (a:I)(m:Nat)(h:a.size<=40)(g:m<=40) :
  (m=0/\lJ m a.data.toList=false)\/(0<m/\a.size=0/\lJ m a.data.toList=true) \/
  (0<m/\0<a.size/\∃c:UInt8,a.data.toList.head?=some c/\c≠101/\c≠69/\lJ m a.data.toList=false) \/
  (0<m/\0<a.size/\∃c:UInt8,a.data.toList.head?=some c/\(c=101\/c=69)/\lJ m a.data.toList=pV (a.data.toList.drop 1)):=by
 by_cases h0:m=0;{exact .inl ⟨h0,by simp[lJ,h0]⟩};{by_cases f:a.size=0;{exact .inr (.inl ⟨by omega,f,by simp[lJ,h0,sS a f]⟩)};{have hh:=aAh a (by omega);have hne:a.data.toList≠[]:=by{intro e;rw[e]at hh;simp at hh};by_cases d:a[0]'(by omega)=101\/a[0]'(by omega)=69;{exact .inr (.inr (.inr ⟨by omega,by omega,_,hh,d,by simp[lJ,h0,hne,hh,d]⟩))};{have b:=ic.1 d;exact .inr (.inr (.inl ⟨by omega,by omega,_,hh,b.1,b.2,by simp[lJ,h0,hne,hh,b.1,b.2]⟩))}}}
open Go.RowKit
theorem aAi (s:I)(c:UInt8)(h:s.data.toList.head?=some c):∃h:0<s.size,s[0]=c:=by
 have b:0<s.size:=by{rw[aY];cases hl:s.data.toList with|nil=>{rw[hl]at h;simp at h}|cons a l=>simp};refine⟨b,?_⟩;rw[aAh s b]at h;exact b8 h
inductive xK (s4:I):Bool->Prop
 | none (h:s4.size=0):xK s4 false
 | bare (h:0<s4.size) (h1:((s4[0].toNat:Int)==43)=false) (h2:((s4[0].toNat:Int)==45)=false) (d:Nat) (hd:digs s4.data.toList=d):xK s4 (decide ((d:Int)=s4.size))
 | plus (h:0<s4.size) (h1:((s4[0].toNat:Int)==43)=true) (s5:I) (h5:s5.size<=s4.size) (c5:∀w,(Instr.slice 9 (.string s4) (some (.int .i64 1)) none none).run Tryz.prog w=.ok (.string s5) w)
   (h0:s5.size=0):xK s4 false
 | plusd (h:0<s4.size) (h1:((s4[0].toNat:Int)==43)=true) (s5:I) (h5:s5.size<=s4.size) (c5:∀w,(Instr.slice 9 (.string s4) (some (.int .i64 1)) none none).run Tryz.prog w=.ok (.string s5) w)
   (h0:0<s5.size) (d:Nat) (hd:digs s5.data.toList=d):xK s4 (decide ((d:Int)=s5.size))
 | minus (h:0<s4.size) (h1:((s4[0].toNat:Int)==43)=false) (h2:((s4[0].toNat:Int)==45)=true) (s5:I) (h5:s5.size<=s4.size) (c5:∀w,(Instr.slice 9 (.string s4) (some (.int .i64 1)) none none).run Tryz.prog w=.ok (.string s5) w)
   (h0:s5.size=0):xK s4 false
 | minusd (h:0<s4.size) (h1:((s4[0].toNat:Int)==43)=false) (h2:((s4[0].toNat:Int)==45)=true) (s5:I) (h5:s5.size<=s4.size) (c5:∀w,(Instr.slice 9 (.string s4) (some (.int .i64 1)) none none).run Tryz.prog w=.ok (.string s5) w)
   (h0:0<s5.size) (d:Nat) (hd:digs s5.data.toList=d):xK s4 (decide ((d:Int)=s5.size))
theorem aC1 (a:I):xK a (pV a.data.toList):=by
 by_cases h:a.size=0;{have:pV a.data.toList=false:=by{rw[sS a h];rfl};rw[this];exact .none h};{have d:0<a.size:=by{omega};have m:=aAh a d;by_cases b:a[0].toNat=43\/a[0].toNat=45;{obtain⟨c,e5,z5,c5⟩:=gO a 1 d;have j:a[0]=43\/a[0]=45:=by{rcases b with b|b;{exact .inl (dx.1 b)};{exact .inr (dx.1 b)}};have k:pV a.data.toList=(!c.data.toList.isEmpty&&digs c.data.toList==c.data.toList.length):=by{unfold pV;simp only[m,fe];rw[ae j,e5]};rw[k];by_cases f:c.size=0;{rw[sS c f];rcases b with b|b;{exact .plus d (by simp[b]) c (by omega) c5 f};{exact .minus d (by simp[b]) (by simp[b]) c (by omega) c5 f}};{have i:c.data.toList.isEmpty=false:=by{rw[<-qi];exact eJ c (by omega)};have g:(!c.data.toList.isEmpty&&digs c.data.toList==c.data.toList.length)=decide (((digs c.data.toList:Nat):Int)=c.size):=by{rw[i,aY,ba];simp;omega};rw[g];rcases b with b|b;{exact .plusd d (by simp[b]) c (by omega) c5 (by omega) _ rfl};{exact .minusd d (by simp[b]) (by simp[b]) c (by omega) c5 (by omega) _ rfl}}};{have l:=ic.1 b;have j:¬(a[0]=43\/a[0]=45):=by{rintro(e|e)<;>rw[e]at l<;>simp at l};have k:pV a.data.toList=(!a.data.toList.isEmpty&&digs a.data.toList==a.data.toList.length):=by{unfold pV;simp only[m,fe];rw[ac j]};have i:a.data.toList.isEmpty=false:=by{rw[<-qi];exact eJ a d};have g:(!a.data.toList.isEmpty&&digs a.data.toList==a.data.toList.length)=decide (((digs a.data.toList:Nat):Int)=a.size):=by{rw[i,aY,ba];simp;omega};rw[k,g];exact .bare d (by simp;omega) (by simp;omega) _ rfl}}
inductive zT (s3:I) (m:Nat):Bool->Prop
 | zero (h:m=0):zT s3 m false
 | done (h:0<m) (h1:s3.size=0):zT s3 m true
 | other (h:0<m) (h1:0<s3.size) (h2:((s3[0].toNat:Int) !=101)=true) (h3:((s3[0].toNat:Int) !=69)=true):zT s3 m false
 | small (h:0<m) (h1:0<s3.size) (h2:((s3[0].toNat:Int) !=101)=false) (s4:I) (z4:s4.size<=s3.size) (c4:∀w,(Instr.slice 9 (.string s3) (some (.int .i64 1)) none none).run Tryz.prog w=.ok (.string s4) w) (v:Bool) (hv:xK s4 v):zT s3 m v
 | large (h:0<m) (h1:0<s3.size) (h2:((s3[0].toNat:Int) !=101)=true) (h3:((s3[0].toNat:Int) !=69)=false) (s4:I) (z4:s4.size<=s3.size) (c4:∀w,(Instr.slice 9 (.string s3) (some (.int .i64 1)) none none).run Tryz.prog w=.ok (.string s4) w) (v:Bool) (hv:xK s4 v):zT s3 m v
theorem aC0 (f:I)(m:Nat)(l:f.size<=40)(k:m<=40):zT f m (lJ m f.data.toList):=by
 rcases aNp f m l k with⟨h,d⟩|⟨h,b,d⟩|⟨h,b,c,i,a,j,d⟩|⟨h,b,c,i,a,d⟩;{rw[d];exact .zero h};{rw[d];exact .done h b};{rw[d];obtain⟨_,rfl⟩:=aAi f c i;exact .other h b (by have:=fun e=>a (dx.1 e);simp at this ⊢;omega) (by have:=fun e=>j (dx.1 e);simp at this ⊢;omega)};{rw[d];obtain⟨_,rfl⟩:=aAi f c i;obtain⟨g,e4,z4,c4⟩:=gO f 1 b;rw[<-e4];rcases a with a|a;{exact .small h b (by rw[a];rfl) g (by omega) c4 _ (aC1 g)};{exact .large h b (by rw[a];rfl) (by rw[a];rfl) g (by omega) c4 _ (aC1 g)}}
open Go.RowKit
theorem aGn (s s1 a:I)(n:Nat)(v:Bool)(w:H)(A:s.size<=40)(B:s1.size<=40)(C:a.size<=s1.size)
  (q:∀w,Y 117 #[.string s,.string { data:=#[45] }] w fun e w'=>e=.returned (.string s1)/\w=w')
  (l:∀w,Y 112 #[.string s1] w fun e w'=>e=.returned (.int .i64 n)/\w=w')
  (c2:∀w,(Instr.slice 9 (.string s1) (some (.int .i64 n)) none none).run Tryz.prog w=.ok (.string a) w)
  (m:∀w,Y 118 #[.string a,.string { data:=#[46] }] w fun e w'=>e=.returned (.bool false)/\w=w')
  (_hns:n<=s1.size) (i:zT a n v) :
  Y 65 #[.string s] w fun e w'=>e=.returned (.bool v)/\w=w':=by
 have x:=Z q;have t:=Z l;have u:=Z m;clear q l m;cases i
 case' zero h=>have z:(((n:Int))==0)=true:=by simp;omega
 case' done h h1=>have j:=kQ a h1;clear h1
 case' other h h1 h2 h3=>have j:=eJ a h1
 case' small h h1 h2 s4 z4 c4 i=>have j:=eJ a h1
 case' large h h1 h2 h3 s4 z4 c4 i=>have j:=eJ a h1
 all_goals try have z:(((n:Int))==0)=false:=by simp;omega
 all_goals try clear h
 all_goals try rcases i with b|⟨b,g,r,d,hd⟩|⟨b,g,c,k,c5,f⟩|⟨b,g,c,k,c5,f,d,hd⟩|⟨b,g,r,c,k,c5,f⟩|⟨b,g,r,c,k,c5,f,d,hd⟩
 all_goals try have y:=eJ s4 b
 all_goals try have y:=kQ s4 b
 all_goals try have e3:=eJ c f
 all_goals try have e3:=kQ c f
 all_goals try have p:=Z (fun w=>kW s4 d w (by unfold maxLen;omega) hd)
 all_goals try have p:=Z (fun w=>kW c d w (by unfold maxLen;omega) hd)
 all_goals try clear hd
 all_goals
  go_enter Tryz.func65,Tryz.ntmps65
  go_wp2_with (first
   | (go_at_call 117;refine(x.o _).mono ?_;rintro e w' ⟨rfl,rfl⟩)
   | (go_at_call 118;refine(u.o _).mono ?_;rintro e w' ⟨rfl,rfl⟩)
   | (go_at_call 112;((with_reducible refine(t.o _).mono ?_);rintro e w' ⟨rfl,rfl⟩))
   | (go_at_call 112;((with_reducible refine(p.o _).mono ?_);rintro e w' ⟨rfl,rfl⟩)))
  go_ret;exact⟨rfl,rfl⟩
theorem aHo (s s1 g y b:I)(n k:Nat)(v:Bool)(w:H)(J:s.size<=40)(M:s1.size<=40)(_hz2:g.size<=s1.size)(N:b.size<=s1.size)
  (u:∀w,Y 117 #[.string s,.string { data:=#[45] }] w fun e w'=>e=.returned (.string s1)/\w=w')
  (p:∀w,Y 112 #[.string s1] w fun e w'=>e=.returned (.int .i64 n)/\w=w')
  (c2:∀w,(Instr.slice 9 (.string s1) (some (.int .i64 n)) none none).run Tryz.prog w=.ok (.string g) w)
  (r:∀w,Y 118 #[.string g,.string { data:=#[46] }] w fun e w'=>e=.returned (.bool true)/\w=w')
  (F:∀w,(Instr.slice 9 (.string g) (some (.int .i64 1)) none none).run Tryz.prog w=.ok (.string y) w)
  (q:∀w,Y 112 #[.string y] w fun e w'=>e=.returned (.int .i64 k)/\w=w')
  (K:((k:Int)==0)=false)
  (c3:∀w,(Instr.slice 9 (.string g) (some (.int .i64 (1+(k:Int)))) none none).run Tryz.prog w=.ok (.string b) w)
  (_hns:n<=s1.size) (L:n+k<=s1.size) (j:zT b (n+k) v) :
  Y 65 #[.string s] w fun e w'=>e=.returned (.bool v)/\w=w':=by
 have C:=Z u;have z:=Z p;have A:=Z q;have B:=Z r;clear u p r q;cases j
 case' zero h=>have E:(((n:Int)+(k:Int))==0)=true:=by simp;omega
 case' done h h1=>have l:=kQ b h1;clear h1
 case' other h h1 h2 h3=>have l:=eJ b h1
 case' small h h1 h2 s4 z4 c4 j=>have l:=eJ b h1
 case' large h h1 h2 h3 s4 z4 c4 j=>have l:=eJ b h1
 all_goals try have E:(((n:Int)+(k:Int))==0)=false:=by simp;omega
 all_goals try clear h
 all_goals try rcases j with a|⟨a,i,x,d,hd⟩|⟨a,i,c,m,c5,f⟩|⟨a,i,c,m,c5,f,d,hd⟩|⟨a,i,x,c,m,c5,f⟩|⟨a,i,x,c,m,c5,f,d,hd⟩
 all_goals try have D:=eJ s4 a
 all_goals try have D:=kQ s4 a
 all_goals try have e3:=eJ c f
 all_goals try have e3:=kQ c f
 all_goals try have t:=Z (fun w=>kW s4 d w (by unfold maxLen;omega) hd)
 all_goals try have t:=Z (fun w=>kW c d w (by unfold maxLen;omega) hd)
 all_goals try clear hd
 all_goals
  go_enter Tryz.func65,Tryz.ntmps65
  go_wp2_with (first
   | (go_at_call 117;refine(C.o _).mono ?_;rintro e w' ⟨rfl,rfl⟩)
   | (go_at_call 118;refine(B.o _).mono ?_;rintro e w' ⟨rfl,rfl⟩)
   | (go_at_call 112;((with_reducible refine(z.o _).mono ?_);rintro e w' ⟨rfl,rfl⟩))
   | (go_at_call 112;((with_reducible refine(A.o _).mono ?_);rintro e w' ⟨rfl,rfl⟩))
   | (go_at_call 112;((with_reducible refine(t.o _).mono ?_);rintro e w' ⟨rfl,rfl⟩)))
  go_ret;exact⟨rfl,rfl⟩
theorem aE1 (s s1 a g:I)(n:Nat)(w:H)(m:s.size<=40)(_hz1:s1.size<=40)
  (f:∀w,Y 117 #[.string s,.string { data:=#[45] }] w fun e w'=>e=.returned (.string s1)/\w=w')
  (b:∀w,Y 112 #[.string s1] w fun e w'=>e=.returned (.int .i64 n)/\w=w')
  (c2:∀w,(Instr.slice 9 (.string s1) (some (.int .i64 n)) none none).run Tryz.prog w=.ok (.string a) w)
  (d:∀w,Y 118 #[.string a,.string { data:=#[46] }] w fun e w'=>e=.returned (.bool true)/\w=w')
  (l:∀w,(Instr.slice 9 (.string a) (some (.int .i64 1)) none none).run Tryz.prog w=.ok (.string g) w)
  (c:∀w,Y 112 #[.string g] w fun e w'=>e=.returned (.int .i64 (0:Nat))/\w=w') :
  Y 65 #[.string s] w fun e w'=>e=.returned (.bool false)/\w=w':=by
 have k:=Z f;have h:=Z b;have i:=Z c;have j:=Z d;clear f b d c;go_enter Tryz.func65,Tryz.ntmps65
 go_wp2_with (first
  | (go_at_call 117;refine(k.o _).mono ?_;rintro e w' ⟨rfl,rfl⟩)
  | (go_at_call 118;refine(j.o _).mono ?_;rintro e w' ⟨rfl,rfl⟩)
  | (go_at_call 112;((with_reducible refine(h.o _).mono ?_);rintro e w' ⟨rfl,rfl⟩))
  | (go_at_call 112;((with_reducible refine(i.o _).mono ?_);rintro e w' ⟨rfl,rfl⟩)))
 go_ret;exact⟨rfl,rfl⟩
theorem rC (s:I)(w:H)(y:s.size<=maxLen) :
  Y 65 #[.string s] w fun e w'=>e=.returned (.bool (cW s.data.toList))/\w=w':=by
 by_cases u:40<s.size
 ·exact aGo s w y u
 ·obtain⟨s1,o⟩:∃s1:I,s1.data.toList=if s.data.toList.head?=some 45 then s.data.toList.drop 1 else s.data.toList:=⟨⟨(if s.data.toList.head?=some 45 then s.data.toList.drop 1 else s.data.toList).toArray⟩,rfl⟩
  have p:s1.size<=40:=by
   rw[aY,o];rw[aY]at u
   split
   ·rw[bn];omega
   ·omega
  have b:cW s.data.toList=uH s1.data.toList:=by
   unfold cW;rw[ac (by rw[<-aY];omega),o]
  rw[b];have i:=fun w=>aQt s s1 w o
  obtain⟨n,f⟩:=ex (digs s1.data.toList)
  have m:n<=s1.size:=by rw[f,aY];exact kP _
  have g:=fun w=>kW s1 n w (by unfold maxLen;omega) f.symm
  obtain⟨a,t,B,c2⟩:=gO s1 n m;by_cases hd:a.data.toList.head?=some 46
  ·obtain⟨z,_⟩:=aAi a 46 hd;have d:=fun w=>aKm a true w (by simp[hd])
   obtain⟨c,v,C,r⟩:=gO a 1 z;obtain⟨k,j⟩:=ex (digs c.data.toList)
   have A:k<=c.size:=by rw[j,aY];exact kP _
   have h:=fun w=>kW c k w (by unfold maxLen;omega) j.symm
   obtain⟨q,x,D,c3⟩:=gO a (1+k) (by omega);have b:uH s1.data.toList=if k=0 then false else lJ (n+k) q.data.toList:=by
    unfold uH;rw[<-f,<-t,ae hd,<-v,<-j,<-x]
   rw[b];by_cases l:k=0
   ·rw[ae l];rw[l]at h
    exact aE1 s s1 a c n w (by omega) p i g c2 d r h
   ·rw[ac l];have e:((1+k:Nat):Int)=1+(k:Int):=by omega
    rw[e]at c3
    exact aHo s s1 a c q n k _ w (by omega) p (by omega) (by omega) i g c2 d r h (by simp;omega) c3 m (by omega) (aC0 q (n+k) (by omega) (by omega))
  ·have d:=fun w=>aKm a false w (by simp[hd])
   have b:uH s1.data.toList=lJ n a.data.toList:=by
    unfold uH;rw[<-f,<-t,ac hd]
   rw[b];exact aGn s s1 a n _ w (by omega) p (by omega) i g c2 d m (aC0 a n (by omega) (by omega))
open Go.RowKit
def aN (i:Nat):Nat:=(Pinned.pow10Rows.getD i (0,0)).1
def aX (i:Nat):Nat:=(Pinned.pow10Rows.getD i (0,0)).2
def iA:List Nat:=[4607182418800017408,4621819117588971520,4636737291354636288,4652007308841189376,4666723172467343360,4681608360884174848,4696837146684686336,4711630319722168320,4726483295884279808,4741671816366391296,4756540486875873280,4771362005757984768,4786511204640096256,4801453603149578240,4816244402031689728,4831355200913801216,4846369599423283200,4861130398305394688,4876203697187506176,4891288408196988160,4906019910204099648,4921056587992461136,4936209963552724370]
def aC6:List Int:=[1,3,6,9,13,16,19,23,26]
structure aA (w:H):Prop where
 opt:w.cell? ⟨7,0,none⟩=some (.bool true)
 most:∃m,w.cell? ⟨1,0,none⟩=some (.int .i64 m)
 syn:∃t v,w.cell? ⟨2,0,none⟩=some (.iface t v)
 rng:∃t v,w.cell? ⟨3,0,none⟩=some (.iface t v)
 info0:w.cell? ⟨8,0,none⟩=some (.int .u64 52)
 info1:w.cell? ⟨8,1,none⟩=some (.int .u64 11)
 info2:w.cell? ⟨8,2,none⟩=some (.int .i64 (-1023))
 f10:∃b o,w.cell? ⟨12,0,none⟩=some (.slice (some ⟨b,o,none⟩) 23 23)/\∀i,i<23->w.cell? ⟨b,o+i,none⟩=some (.float .f64 (iA.getD i 0))
 p2:∃b o,w.cell? ⟨11,0,none⟩=some (.slice (some ⟨b,o,none⟩) 9 9)/\∀i,i<9->w.cell? ⟨b,o+i,none⟩=some (.int .i64 (aC6.getD i 0))
 p10:∀i,i<696->w.cell? ⟨13,2*i,none⟩=some (.int .u64 (aN i))/\w.cell? ⟨13,2*i+1,none⟩=some (.int .u64 (aX i))
 cheats:∃b o,w.cell? ⟨14,0,none⟩=some (.slice (some ⟨b,o,none⟩) 61 61)/\∀i,i<61->w.cell? ⟨b,o+2*i,none⟩=some (.int .i64 (Pinned.cheatRows.getD i (0,[])).1)/\w.cell? ⟨b,o+(2*i+1),none⟩=some (.string ⟨(Pinned.cheatRows.getD i (0,[])).2.toArray⟩)
 u10:Lib.TabIs Tryz.prog w "internal/strconv.uint64pow10" .u64 Lib.pow10Tab
 u8:Lib.Utf8Tabs 4 5 w
theorem aA.keep {w w':H}(h:aA w)(c:∀a v,w.cell? a=some v->w'.cell? a=some v)(r:Lib.Utf8Tabs 4 5 w')(t:∀cs,w.var? Tryz.prog "internal/strconv.uint64pow10" = some cs->w'.var? Tryz.prog "internal/strconv.uint64pow10" = some cs):aA w':=by
 obtain⟨m,s⟩:=h.most;obtain⟨y,v1,g⟩:=h.syn;obtain⟨z,v2,j⟩:=h.rng;obtain⟨b,o,k,l⟩:=h.f10;obtain⟨e,u,n,p⟩:=h.p2;obtain⟨f,x,q,d⟩:=h.cheats;exact⟨c _ _ h.opt,⟨m,c _ _ s⟩,⟨y,v1,c _ _ g⟩,⟨z,v2,c _ _ j⟩,c _ _ h.info0,c _ _ h.info1,c _ _ h.info2,
  ⟨b,o,c _ _ k,fun i hi=>c _ _ (l i hi)⟩,⟨e,u,c _ _ n,fun i hi=>c _ _ (p i hi)⟩,fun i hi=>⟨c _ _ (h.p10 i hi).1,c _ _ (h.p10 i hi).2⟩,
  ⟨f,x,c _ _ q,fun i hi=>⟨c _ _ (d i hi).1,c _ _ (d i hi).2⟩⟩,t _ h.u10,r⟩
theorem aIS:Tryz.prog.globalNamed "internal/strconv.uint64pow10" = some 9:=by kernel_rfl
theorem aA.below {B:Nat}{w w':H}(h:aA w)(c:Below B w w')(e:w.heap.size<=B):aA w':=by
 have f:∀a v,w.cell? a=some v->w'.cell? a=some v:=fun a v d=>by{have:=ed w _ d;rw[c.cell (by omega),d]};refine h.keep f (Utf8Tabs_below h.u8 ⟨c.os,c.tape,c.output,c.size,fun k g=>c.block k (cf g e)⟩) ?_;intro cs d;have i:9<w.heap.size:=by{obtain⟨b,o,h5,_⟩:=h.cheats;have:=ed w _ h5;simp at this;omega};unfold World.var? at d ⊢;simp only[aIS,Option.bind_some]at d ⊢;rw[c.block 9 (by omega)];exact d
theorem aA.drewN {w:H}(h:aA w)(n:Nat):aA (w.drewN n):=h.below (B:=w.heap.size) ⟨rfl,rfl,rfl,ag _,fun _ _=>rfl⟩ aA2
theorem aA.size {w:H}(h:aA w):15<=w.heap.size:=by
 obtain⟨b,o,a,_⟩:=h.cheats;have:=ed w _ a;simp at this;omega
open Go.RowKit
theorem sP (s:I)(w:H):∃cap W,(convert 9 35 (.string s)).run Tryz.prog w=.ok (.slice (some ⟨w.heap.size,0,none⟩) s.size cap) W/\Below w.heap.size w W/\cP W w.heap.size 0 s.data.toList/\s.size<=cap/\w.heap.size<W.heap.size:=by
 refine⟨_,_,uz w 9 35 5 s Tryz.underlying9 Tryz.underlying35 Tryz.underlying5,?_,?_,sx w s.size 0 5,?_⟩
 ·refine⟨?_,?_,?_,by rw[vj];omega,fun k c=>Lib.bytesWorld_at_old w 5 s k c⟩;all_goals
   unfold Lib.bytesWorld World.freeze;split<;>rfl
 {intro j a;have b:j<s.size:=a;rw[be,Lib.bytesWorld_cell w 5 s j b];simp[List.getD_eq_getElem?_getD,List.getElem?_eq_getElem a]};{rw[vj];omega}
theorem aPW {a b:Int}(h:a=b):Ending.returned (.int .i32 a)=.returned (.int .i32 b):=by rw[h]
theorem aLT (x:Nat)(w:H)(_hx:x<=1114111)(v:Int)(a:G (mB x=v)):Y 76 #[.int .i32 x] w fun e w'=>e=.returned (.int .i32 v)/\w=w':=by
 go_enter Tryz.func76,Tryz.ntmps76;go_wp2
 all_goals
  go_ret;refine⟨?_,rfl⟩;apply aPW;rw[<-a.o];unfold mB;first
   | (rw[ae (by omega)];done)
   | (rw[ac (by omega)];done)
   | (rw[ac (by omega)];omega)
theorem aHF (w:H):MapGrows Tryz.prog 76 #[] mB w:=by
 intro W x hx _;have:=aLT x W hx _ (Z rfl);exact this.mono fun e w' ⟨a,b⟩=>⟨a,b▸aj _ _⟩
theorem uR (s:I)(t:s.size<=1000000000)(w:H)(T:aA w):Y 32 #[.string s] w (O (.string ⟨(cI s.data.toList).toArray⟩) w):=by
 have p:=Z T;clear T;obtain⟨cap,W,z,g,h,i,j⟩:=sP s w;have d:=Z g;have r:G (cP W w.heap.size 0 s.data.toList):=h;have l:=Z (show s.data.toList.length<=cap from i);have n:=Z (show w.heap.size<W.heap.size from j);clear g h i j;go_enter Tryz.func32,Tryz.ntmps32;go_wp2_with fail;refine(aIF w.heap.size 0 cap s.data.toList (show s.size<=1000000000 from t) l.o W r n.o).mono ?_;rintro e f ⟨rfl,b⟩;have a:=Z (d.o.trans (b.mono d.o.size));have q:=Z (p.o.below a.o aA2);clear b;have hlen:((⟨(nR s.data.toList).toArray⟩:I)).size<35184372088832:=by{have v:=aDG s.data.toList.length s.data.toList aA2;have x:s.data.toList.length=s.size:=rfl;have y:((⟨(nR s.data.toList).toArray⟩:I)).size=(nR s.data.toList).length:=rfl;omega};have m:=Z hlen;clear hlen;go_wp2_with fail;refine(Tryz.strings_Map_grows 76 #[] (fun _ _=>by kernel_rfl) mB _ f m.o (aHF f) aHG q.o.u8).mono ?_;rintro e u ⟨rfl,c⟩;have k:=Z (a.o.trans (c.mono a.o.size));clear c;go_wp2;go_ret;refine⟨?_,k.o⟩;have:Lib.mapD mB (⟨(nR s.data.toList).toArray⟩:I).data.toList=cI s.data.toList:=aPs s.data.toList;rw[<-this];rfl
open Go.RowKit
theorem uT:∀(l:U) (k:Nat) (h:k<l.length),k<digs l->aI l[k]=true
 | [],k,h,_=>by simp at h
 | c :: l,k,h,hk=>by
  unfold digs at hk;rw[lv]at hk
  by_cases a:aI c=true
  ·rw[ae a]at hk
   cases k with
   | zero=>exact a
   | succ k=>exact uT l k (by simpa using h) (by unfold digs;simpa using hk)
  ·rw[ac a]at hk;simp at hk
theorem aEf:∀(l:U) (h:digs l<l.length),aI l[digs l]=false
 | [],h=>by simp at h
 | c :: l,h=>by
  by_cases a:aI c=true
  ·have e:digs (c :: l)=digs l+1:=by unfold digs;rw[lv,ae a];rfl
   have:=aEf l (by rw[e]at h;simpa using h);simp only[e,nf];exact this
  ·have e:digs (c :: l)=0:=by unfold digs;rw[lv,ac a];rfl
   simp only[e,vm];simpa using a
theorem sQ (c:UInt8)(h:aI c=true):48<=c.toNat/\c.toNat<=57:=by simpa [aI]using h
theorem aAM (l:U):∀k,k<=digs l->∃m,Lib.decFrom 0 (l.take k)=some m/\m<10^k
 | 0,_=>⟨0,by simp[Lib.decFrom],by decide⟩
 | k+1,hk=>by
  obtain⟨m,b,c⟩:=aAM l k (by omega);have a:k<l.length:=by have:=kP l;omega
  have hd:=sQ _ (uT l k a (by omega));refine⟨m*10+(l[k].toNat-48),Lib.decFrom_take l k 0 m l[k] _ b (bc a) (by unfold Lib.digitVal;rw[ae hd]),?_⟩;rw[bz];omega
theorem aL9 (s:I)(j m:Nat)(b:j<s.size)(hd:j<digs s.data.toList)(h:Lib.decFrom 0 (s.data.toList.take j)=some m) :
  Lib.decFrom 0 (s.data.toList.take (j+1))=some (10*m+(s[j].toNat-48)):=by
 have a:j<s.data.toList.length:=by{simpa using b};have:=Lib.decFrom_take s.data.toList j 0 m s[j] (s[j].toNat-48) h (bc a) (by unfold Lib.digitVal;exact ae (sQ _ (uT _ j a hd)));rw[this,bo]
theorem aJL (s:I)(j m:Nat)(c:j<=digs s.data.toList)(b:j<=8)(h:Lib.decFrom 0 (s.data.toList.take j)=some m):m<=99999999:=by
 obtain⟨e,a,d⟩:=aAM s.data.toList j c;rw[h]at a;cases a;have:10^j<=10^8:=cc (by omega) b;omega
def tX (v lo hi:Int):Value:=if v<lo\/hi<v then .tuple #[.int .i64 0,.bool false]else .tuple #[.int .i64 v,.bool true]
theorem aAt (s:I)(lo hi:Int)(w:H)(h:s.size=0\/9<s.size) :
  Y 94 #[.string s,.int .i64 lo,.int .i64 hi] w fun e w'=>e=.returned (.tuple #[.int .i64 0,.bool false])/\w=w':=by
 go_enter Tryz.func94,Tryz.ntmps94
 rcases h with h|h
 ·as_aux_lemma =>
   go_wp2
   go_ret2;exact⟨rfl,rfl⟩
 ·have a:¬s.size=0:=by omega
  as_aux_lemma =>
   go_wp2
   go_ret2;exact⟨rfl,rfl⟩
theorem aC9 (s:I)(lo hi:Int)(w:H)(d:1<s.size)(f:s.size<=9)(a:s[0].toNat=48) :
  Y 94 #[.string s,.int .i64 lo,.int .i64 hi] w fun e w'=>e=.returned (.tuple #[.int .i64 0,.bool false])/\w=w':=by
 have c:¬s.size=0:=by omega
 have b:((s[0].toNat:Int)==48)=true:=by simp[a]
 go_enter Tryz.func94,Tryz.ntmps94
 go_wp2
 go_ret2;exact⟨rfl,rfl⟩
def AtW (s:I)(a b:Value)(j m:Nat):Prop :=
 a=.int .i64 (m:Nat)/\b=.int .i64 (j:Nat)/\j<=digs s.data.toList/\Lib.decFrom 0 (s.data.toList.take j)=some m
theorem aC8 (s:I)(lo hi:Int)(w:H)(Q:1<=s.size)(R:s.size<=9)(z:s.size=1\/∃h:0<s.size,((s[0].toNat:Int)==48)=false) :
  Y 94 #[.string s,.int .i64 lo,.int .i64 hi] w fun e w'=>e=.returned (if digs s.data.toList=s.size then tX (Lib.decFrom 0 s.data.toList).get! lo hi else .tuple #[.int .i64 0,.bool false])/\w=w':=by
 have P:¬s.size=0:=by omega
 have X:((s.size:Int)==0)=false:=ai.2 (by omega);have i2:decide (9<(s.size:Int))=false:=bp (by omega);have B:digs s.data.toList<=s.size:=by have:=kP s.data.toList;simpa using this
 have x:=Z B;clear B;obtain⟨V,q⟩:=ex ((if digs s.data.toList=s.size then tX (Lib.decFrom 0 s.data.toList).get! lo hi else .tuple #[.int .i64 0,.bool false]))
 rw[<-q];have d:=Z q;clear q;have F:=Z z;clear z;go_enter Tryz.func94,Tryz.ntmps94
 go_upto_region 2 with fail
 go_cut [27] (fun t wx=>t=.bool false/\wx=w)
 case first =>
  rcases F.o with h|⟨h,e⟩
  ·have i3:decide (1<(s.size:Int))=false:=bp (by omega);as_aux_lemma =>
    go_wp2_with fail
    all_goals go_meet
    all_goals exact⟨rfl,rfl⟩
  ·as_aux_lemma =>
    go_wp2_with fail
    all_goals go_meet
    all_goals exact⟨rfl,rfl⟩
 case rest =>
  obtain⟨rfl,rfl⟩:=hcut;go_wp2_with fail
  go_loopg [8,9] (s.size) (fun g a b wx=>∃j m,AtW s a b j m/\g=s.size-j/\wx=wc)
  case atStart=>exact⟨0,0,⟨rfl,rfl,ax _,by simp[Lib.decFrom]⟩,by omega,rfl⟩
  case round =>
   obtain⟨j,m,⟨rfl,rfl,f,C⟩,A,rfl⟩:=hrel;have S:j<=s.size:=by have:=x.o;omega
   have n:=Z C;have J:=Z A;clear C A;by_cases k:j<s.size
   ·by_cases i:j<digs s.data.toList
    ·obtain⟨M,N⟩:=sQ s[j] (uT s.data.toList j (by simpa using k) i);have W:=aJL s j m f (by omega) n.o;have D:=aL9 s j m k i n.o;have L:=Z D;have K:=Z i;clear D f i;as_aux_lemma =>
      go_wp2_with fail
      go_roundg (s.size-(j+1))
      case measure=>have:=J.o;omega
      case rel=>exact⟨j+1,_,⟨by rw[te,pj,Int.ofNat_sub M];rfl,by go_num,by have:=K.o;omega,L.o⟩,rfl,rfl⟩
    ·have c:digs s.data.toList=j:=by omega
     have u:=aEf s.data.toList (by rw[c];simpa using k);have ne:¬digs s.data.toList=s.size:=by omega
     simp only[c]at u;have v:aI s[j]=false:=u;have T:s[j].toNat<256:=s[j].toNat_lt;have r:s[j].toNat<48\/57<s[j].toNat:=by
      unfold aI at v;simp at v;omega
     have y:=Z ne;clear c u v ne f;rcases r with r|r
     ·as_aux_lemma =>
       go_wp2_with fail
       go_ret2;exact⟨by rw[d.o,ac y.o];rfl,rfl⟩
     ·as_aux_lemma =>
       go_wp2_with fail
       go_ret2;exact⟨by rw[d.o,ac y.o];rfl,rfl⟩
   ·have c:digs s.data.toList=s.size:=by have:=x.o;omega
    have e:j=s.size:=by omega
    subst e;have E:Lib.decFrom 0 s.data.toList=some m:=by
     have:=n.o;rwa[cy (by simp)]at this
    have l:=Z c;have p:=Z E;clear c E f k;by_cases c1:(m:Int)<lo
    ·as_aux_lemma =>
      go_wp2_with fail
      all_goals go_ret2
      all_goals exact⟨by rw[d.o,ae l.o,p.o];unfold tX;rw[ae (.inl c1)];rfl,rfl⟩
    ·by_cases c2:hi<(m:Int)
     ·as_aux_lemma =>
       go_wp2_with fail
       all_goals go_ret2
       all_goals exact⟨by rw[d.o,ae l.o,p.o];unfold tX;rw[ae (.inr c2)];rfl,rfl⟩
     ·as_aux_lemma =>
       go_wp2_with fail
       all_goals go_ret2
       all_goals exact⟨by rw[d.o,ae l.o,p.o];unfold tX;rw[ac (by simp[c1,c2])];rfl,rfl⟩
open Go.RowKit PU8
structure oA (rs:List Nat) (k:Nat) (ks:List Nat):Prop where
 le:k<=rs.length
 len:ks.length<=k
 o:ks=(rs.take k).filter fP
theorem oA.start (a:List Nat):oA a 0 []:=⟨ax _,ag _,rfl⟩
theorem oA.yes {a:List Nat}{k:Nat}{c:List Nat}(h:oA a k c)(b:k<a.length)(hr:fP a[k]=true):oA a (k+1) (c++[a[k]]):=by
 refine⟨b,?_,?_⟩;{have:=h.len;simp;omega};{rw[fw b,mr,<-h.o];simp[hr]}
theorem oA.no {a:List Nat}{k:Nat}{ks:List Nat}(h:oA a k ks)(b:k<a.length)(hr:fP a[k]=false):oA a (k+1) ks:=by
 refine⟨b,?_,?_⟩;{have:=h.len;omega};{rw[fw b,mr,<-h.o];simp[hr]}
theorem aLE (L:U):(fZ L).length<=L.length:=by
 have h:∀(n:Nat) (l:U),l.length<=n->(fZ l).length<=l.length:=by{intro n;induction n with|zero=>{intro l c;rw[fv (by omega:l.length=0)];exact ag _}|succ n ih=>{intro l c;by_cases a:l=[];{subst a;exact ag _};{rw[qA l a,bw];have d:=rU l a;have b:=ih (l.drop (pieceU (aL l)).1) (by rw[bn];omega);rw[bn]at b;have:1<=l.length:=by{rcases l with _|⟨_,_⟩;exact absurd rfl a;simp};omega}}};exact h L.length L aA2
theorem vJ (s:I)(hs:s.size<=1000000000)(w:H):Y 33 #[.string s] w (O (.string ⟨(cI s.data.toList).toArray⟩) w):=by
 obtain⟨q,hi,m,n,p⟩:=cq Tryz.info21;obtain⟨cap,W,ar,P,Q,ad,X⟩:=sP s w;have V:s.data.toList.length=s.size:=rfl;have T:=aLE s.data.toList;have B:=vK s.data.toList.length s.data.toList aA2;have C:=aJi w.heap.size 0 cap s.data.toList W (Z Q) X (by omega);rw[V]at C T;have N:cI s.data.toList=((fZ s.data.toList).filter fP).flatMap bA:=rfl;unfold aD9 at C;rw[N];generalize fZ s.data.toList=rs at C T B;have E:=Z P;have HC:=Z C;have K:=Z B;clear P Q ad X C B V N;go_enter Tryz.func33,Tryz.ntmps33;go_wp2_with fail;refine HC.o.mono ?_;rintro e y ⟨v,rfl,z⟩;have F:=Z (E.o.trans (z.bel.mono E.o.size));have L:=Z z.vec;clear z;obtain⟨a,c,rfl,_⟩:=L.o;go_wp2;go_loopw [4,5] (fun o i wx=>∃(k:Nat) (ks:List Nat),i=.int .i64 k/\G (oA rs k ks)/\G (aJ y.heap.size 21 1 o ks.length (ks.map pZ) y wx)) (fun _ i _=>rs.length-(intOf i).toNat);case atStart=>exact⟨0,[],rfl,Z (oA.start rs),Z (aJ.nil y 21 1)⟩
 case round =>obtain⟨k,ks,rfl,f,b⟩:=hrel;have hk:=f.o.le;have an:=f.o.len;rcases ak k rs.length with l|al;{obtain⟨g,off,c',hva,R⟩:=(L.o.below b.o.bel aA2).get k (by simpa using l);simp only[cg,fy]at hva;obtain⟨rfl,rfl⟩:=hva;rw[oe]at R;have ao:=(K.o rs[k] (fl l)).2;have j:=Z (f.o.yes l);have x:=Z (f.o.no l);generalize rs[k]=r at *;unfold pZ at R;have ah:r<9\/r=9\/r=10\/(10<r/\r<32)\/(32<=r/\r<127)\/(127<=r/\r<=159)\/159<r:=by{omega};rcases ah with h|rfl|rfl|⟨h,M⟩|⟨h,M⟩|⟨h,M⟩|h;{have HF:=Z (x.o (by unfold fP;simp;omega));have t:((r:Int)==9)=false:=by{rw[ai];omega};have u:((r:Int)==10)=false:=by{rw[ai];omega};go_wp2;go_roundw;(case rel=>exact⟨k+1,ks,by go_num,HF,b⟩);case measure=>simp[intOf];omega};{have HF:=Z (j.o rfl);go_wp2_with (at_builtin;refine bE (by rfl) _ _ 85 (by rfl) 21 q (.int .i32 0) 1 4 Tryz.underlying85 hi m n p rfl (by decide) _ _ _ rfl b.o #[.int .i32 (9:Nat)] rfl rfl rfl rfl (by omega) (by omega) ?_);intro v' w' d _;go_wp2;go_roundw;(case rel=>exact⟨k+1,ks++[9],by go_num,HF,Z (d.o.cast (by simp) (by simp[pZ]))⟩);case measure=>simp[intOf];omega};{have HF:=Z (j.o rfl);go_wp2_with (at_builtin;refine bE (by rfl) _ _ 85 (by rfl) 21 q (.int .i32 0) 1 4 Tryz.underlying85 hi m n p rfl (by decide) _ _ _ rfl b.o #[.int .i32 (10:Nat)] rfl rfl rfl rfl (by omega) (by omega) ?_);intro v' w' d _;go_wp2;go_roundw;(case rel=>exact⟨k+1,ks++[10],by go_num,HF,Z (d.o.cast (by simp) (by simp[pZ]))⟩);case measure=>simp[intOf];omega};{have HF:=Z (x.o (by unfold fP;simp;omega));have t:((r:Int)==9)=false:=by{rw[ai];omega};have u:((r:Int)==10)=false:=by{rw[ai];omega};go_wp2;go_roundw;(case rel=>exact⟨k+1,ks,by go_num,HF,b⟩);case measure=>simp[intOf];omega};{have HF:=Z (j.o (by unfold fP;simp;omega));have t:((r:Int)==9)=false:=by{rw[ai];omega};have u:((r:Int)==10)=false:=by{rw[ai];omega};go_wp2_with (at_builtin;refine bE (by rfl) _ _ 85 (by rfl) 21 q (.int .i32 0) 1 4 Tryz.underlying85 hi m n p rfl (by decide) _ _ _ rfl b.o #[.int .i32 r] rfl rfl rfl rfl (by omega) (by omega) ?_);intro v' w' d _;go_wp2;go_roundw;(case rel=>exact⟨k+1,ks++[r],by go_num,HF,Z (d.o.cast (by simp) (by simp[pZ]))⟩);case measure=>simp[intOf];omega};{have HF:=Z (x.o (by unfold fP;simp;omega));have t:((r:Int)==9)=false:=by{rw[ai];omega};have u:((r:Int)==10)=false:=by{rw[ai];omega};go_wp2;go_roundw;(case rel=>exact⟨k+1,ks,by go_num,HF,b⟩);case measure=>simp[intOf];omega};{have HF:=Z (j.o (by unfold fP;simp;omega));have t:((r:Int)==9)=false:=by{rw[ai];omega};have u:((r:Int)==10)=false:=by{rw[ai];omega};go_wp2_with (at_builtin;refine bE (by rfl) _ _ 85 (by rfl) 21 q (.int .i32 0) 1 4 Tryz.underlying85 hi m n p rfl (by decide) _ _ _ rfl b.o #[.int .i32 r] rfl rfl rfl rfl (by omega) (by omega) ?_);intro v' w' d _;go_wp2;go_roundw;(case rel=>exact⟨k+1,ks++[r],by go_num,HF,Z (d.o.cast (by simp) (by simp[pZ]))⟩);case measure=>simp[intOf];omega}};{have A:ks=rs.filter fP:=by{have:=f.o.o;rw[show k=rs.length by omega,jm]at this;exact this};have S:∀r∈ks,Val r:=fun r hr=>by{rw[A]at hr;exact K.o r (ke.1 hr).1};have HX:=Z A;have ab:=Z S;have HW:=Z b.o.vec;have J:=Z (F.o.trans (b.o.bel.mono F.o.size));clear A S;go_wp2_with fail;refine(aHv ks ab (by omega) _ wr HW).mono ?_;rintro e W2 ⟨rfl,D⟩;have aa:=Z (J.o.trans (D.mono J.o.size));clear D;go_wp2;go_ret;refine⟨?_,aa.o⟩;rw[HX.o];rfl}
