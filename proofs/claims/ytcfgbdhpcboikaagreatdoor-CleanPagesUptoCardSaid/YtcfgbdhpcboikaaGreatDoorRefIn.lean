/-
The document's 'in' (a word of a list's, with blanks between): what it answers.
-/
import Derived.Test.YtcfgbdhpcboikaaGreatDoorLinkF
namespace Go.Proofs.YtcfgbdhpcboikaaGreatDoor
set_option maxHeartbeats 4000000
set_option maxRecDepth 100000
open Go.RowKit
theorem aCV {n:Nat}:n<=n:=ag n
theorem aEP (b:U):gN b []=if b.isEmpty then []else [b]:=by unfold gN;rfl
theorem wE (b l:U):gN b (32 :: l)=if b.isEmpty then gN [] l else b :: gN [] l:=by
 conv=>lhs;unfold gN
 rw[ae rfl]
theorem aJO (b l:U)(c:UInt8)(h:¬c=32):gN b (c :: l)=gN (b++[c]) l:=by
 conv=>lhs;unfold gN
 rw[ac h]
def fY (l:U)(f k:Nat):U:=(l.take k).drop f
theorem pX (l:U)(k:Nat):fY l k k=[]:=by
 unfold fY;apply d6;rw[br];omega
theorem aI3 (l:U)(f k:Nat)(h:k<l.length)(b:f<=k):fY l f (k+1)=fY l f k++[l[k]]:=by
 unfold fY;rw[fw h,uo (by rw[br];omega)]
theorem rD (l:U)(f k:Nat)(h:k<=l.length)(b:f<k):(fY l f k).isEmpty=false:=by
 unfold fY;rw[td];intro e;have:=az List.length e;rw[bn,br]at this;simp at this;omega
def gK (w l:U)(f k:Nat):Bool:=(gN (fY l f k) (l.drop k)).contains w
theorem aIC (w l:U):gK w l 0 0=inB w l:=by
 unfold gK inB aA8;rw[pX];rfl
theorem aKd (w l:U)(f k:Nat)(h:k<l.length)(c:f<=k)(b:¬l[k]=32):gK w l f (k+1)=gK w l f k:=by
 unfold gK;rw[dy h,aJO _ _ _ b,aI3 l f k h c]
theorem aIB (w l:U)(f k:Nat)(h:k<l.length)(c:f<k)(b:l[k]=32)(d:¬fY l f k=w):gK w l (k+1) (k+1)=gK w l f k:=by
 unfold gK;rw[dy h,b,wE,pX,rD l f k (by omega) c];simp only[f9,gc,List.contains_cons];have:(w==fY l f k)=false:=by{rw[ai];exact fun e=>d e.symm};rw[this,jw]
theorem aKc (w l:U)(k:Nat)(h:k<l.length)(b:l[k]=32):gK w l (k+1) (k+1)=gK w l k k:=by
 unfold gK;rw[dy h,b,wE,pX,pX];rfl
theorem aFK (w l:U)(f k:Nat)(h:k<=l.length)(c:f<k)(b:k=l.length\/∃h:k<l.length,l[k]=32)(d:fY l f k=w):gK w l f k=true:=by
 unfold gK;rcases b with rfl|⟨h,b⟩;{rw[d6 aCV,aEP,rD l f _ h c,d];simp};{rw[dy h,b,wE,rD l f k (by omega) c,d];simp}
theorem aFJ (w l:U)(f:Nat)(c:f<=l.length)(b:f<l.length->¬fY l f l.length=w):gK w l f l.length=false:=by
 unfold gK;rw[d6 aCV,aEP];rcases ak f l.length with h|h;{rw[rD l f _ aCV h];have:=b h;simp only[f9,gc,List.contains_cons,List.contains_nil,ru];rw[ai];exact fun e=>this e.symm};{obtain rfl:f=l.length:=by{omega};rw[pX];rfl}
theorem jL (l:I)(f k:Nat):(l.extract f k).toList=fY l.data.toList f k:=by
 rw[toList_data];unfold fY;simp[List.drop_take]
def aR4 (s l:I)(f k:Nat)(b:Bool):Prop :=
 f<=k/\(k<=l.size/\gK s.data.toList l.data.toList f k=b\/k=l.size+1/\b=false)
theorem pQ (s l:I)(b:Bool)(B:G (inB s.data.toList l.data.toList=b))(K:l.size<=1000000000)(w:H) :
  Y 69 #[.string s,.string l] w fun e w'=>e=.returned (.bool b)/\w=w':=by
 go_enter Tryz.func69,Tryz.ntmps69
 go_wp2
 go_loop [4,5,6] (fun r A i=>r=.bool false/\∃f k:Nat,A=.int .i64 f/\i=.int .i64 k/\G (aR4 s l f k b)) (fun _ _ i=>l.size+1-(intOf i).toNat)
 case atStart=>exact⟨rfl,0,0,rfl,rfl,⟨ag _,.inl ⟨ax _,by rw[aIC];exact B.o⟩⟩⟩
 case round =>
  obtain⟨rfl,f,k,rfl,rfl,u⟩:=hrel;rcases ak l.size k with D|D
  ·have x:b=false:=by
    rcases u.o.2 with⟨E,_⟩|⟨_,h⟩
    ·omega
    ·exact h
   have z:=Z x;clear x;go_wp2
   go_ret;refine⟨?_,rfl⟩;rw[z.o];rfl
  ·have v:f<=k:=u.o.1;have y:gK s.data.toList l.data.toList f k=b:=by
    rcases u.o.2 with⟨_,h⟩|⟨h,_⟩
    ·exact h
    ·omega
   have hlen:l.data.toList.length=l.size:=rfl;have j:=Z y;have c:=Z hlen;clear y hlen;rcases ak k l.size with g|F
   ·by_cases m:l[k]=32
    ·have C:((l[k].toNat:Int)==32)=true:=by rw[m];rfl
     have p:=Z m;clear m;rcases ak f k with n|n
     ·by_cases d:fY l.data.toList f k=s.data.toList
      ·have hx:((l.extract f k).toList==s.toList)=true:=by rw[jL,toList_data,d];simp
       have q:=Z d;clear d;go_wp2
       go_ret;refine⟨?_,rfl⟩;rw[<-j.o,aFK _ _ f k (b9 (c.o▸g)) n (.inr ⟨c.o▸g,p.o⟩) q.o];rfl
      ·have hx:((l.extract f k).toList==s.toList)=false:=by rw[jL,toList_data,ai];exact d
       have q:=Z d;clear d;go_wp2
       go_round
       case rel=>exact⟨rfl,k+1,k+1,by go_num,by go_num,⟨ag _,.inl ⟨g,(aIB _ _ f k (c.o▸g) n p.o q.o).trans j.o⟩⟩⟩
       case measure=>simp[intOf];omega
     ·obtain rfl:f=k:=by omega
      go_wp2
      go_round
      case rel=>exact⟨rfl,f+1,f+1,by go_num,by go_num,⟨ag _,.inl ⟨g,(aKc _ _ f (c.o▸g) p.o).trans j.o⟩⟩⟩
      case measure=>simp[intOf];omega
    ·have C:((l[k].toNat:Int)==32)=false:=by
      rw[ai];intro e;exact m (dx.1 (by simpa using (by omega:l[k].toNat=32)))
     have J:((k:Int)==(l.size:Int))=false:=by
      rw[ai];omega
     have p:=Z m;clear m;go_wp2
     go_round
     case rel=>exact⟨rfl,f,k+1,rfl,by go_num,⟨by omega,.inl ⟨g,(aKd _ _ f k (c.o▸g) v p.o).trans j.o⟩⟩⟩
     case measure=>simp[intOf];omega
   ·obtain rfl:k=l.size:=by omega
    rcases ak f l.size with n|n
    ·by_cases d:fY l.data.toList f l.size=s.data.toList
     ·have hx:((l.extract f l.size).toList==s.toList)=true:=by rw[jL,toList_data,d];simp
      have q:=Z d;clear d;go_wp2
      go_ret;refine⟨?_,rfl⟩;rw[<-j.o,aFK _ _ f l.size (k9 c.o.symm) n (.inl c.o.symm) q.o];rfl
     ·have hx:((l.extract f l.size).toList==s.toList)=false:=by rw[jL,toList_data,ai];exact d
      have t:G (b=false):=by
       show b=false;rw[<-j.o];have:=aFJ s.data.toList l.data.toList f (by rw[c.o];exact v) (fun _=>by rw[c.o];exact d);rwa[c.o]at this
      clear d;go_wp2
      go_round
      case rel=>exact⟨rfl,l.size+1,l.size+1,by go_num,by go_num,⟨ag _,.inr ⟨rfl,t.o⟩⟩⟩
      case measure=>simp[intOf]
    ·obtain rfl:f=l.size:=by omega
     have t:G (b=false):=by
      show b=false;rw[<-j.o];have:=aFJ s.data.toList l.data.toList l.size (by rw[c.o];exact v) (fun h=>by rw[c.o]at h;omega);rwa[c.o]at this
     go_wp2
     go_round
     case rel=>exact⟨rfl,l.size+1,l.size+1,by go_num,by go_num,⟨ag _,.inr ⟨rfl,t.o⟩⟩⟩
     case measure=>simp[intOf]
open Go.RowKit
def lT (j:Nat):I:=⟨(cU.getD j []).toArray⟩
def aOz (w W:H)(b:Nat):Prop:=Below w.heap.size w W/\∀j,j<15->W.cell? ⟨b,j,none⟩=some (.string (lT j))
theorem aHi (w:H)(j:Nat)(h:j<15):(w.alloc (.cells (cU.map fun l=>Value.string ⟨l.toArray⟩).toArray 9)).cell? ⟨w.heap.size,j,none⟩=some (.string (lT j)):=by
 rw[aq _ w.heap.size j _ 9 (0,0) (bi w _)];have:∀j<15,(cU.map fun l=>Value.string ⟨l.toArray⟩).toArray[j]?=some (Value.string (lT j)):=by{intro j b;have c:cU.length=15:=rfl;rw[ld,gv,bc (by omega)];unfold lT;simp[List.getD_eq_getElem?_getD,List.getElem?_eq_getElem (show j<cU.length by omega)]};exact this j h
theorem aKR (w:H):Y 68 #[] w fun e w'=>e=.returned (.slice (some ⟨w.heap.size,0,none⟩) 15 15)/\G (aOz w w' w.heap.size):=by
 go_enter Tryz.func68,Tryz.ntmps68;go_wp2;go_ret;exact⟨rfl,(aj _ w).alloc aCV _,fun j b=>aHi w j b⟩
theorem aSh (w:H):Y 70 #[.int .i64 0] w fun e w'=>e=.returned (.int .i64 0)/\w=w':=by
 go_enter Tryz.func70,Tryz.ntmps70;go_wp2;go_ret;exact⟨rfl,rfl⟩
theorem aSi (w:H):Y 70 #[.int .i64 1] w fun e w'=>e=.returned (.int .i64 0)/\w=w':=by
 go_enter Tryz.func70,Tryz.ntmps70;go_wp2;go_ret;exact⟨rfl,rfl⟩
theorem aSj (w:H):Y 70 #[.int .i64 2] w fun e w'=>e=.returned (.int .i64 765)/\w=w':=by
 go_enter Tryz.func70,Tryz.ntmps70;go_wp2;go_ret;exact⟨rfl,rfl⟩
theorem aSk (w:H):Y 70 #[.int .i64 3] w fun e w'=>e=.returned (.int .i64 49)/\w=w':=by
 go_enter Tryz.func70,Tryz.ntmps70;go_wp2;go_ret;exact⟨rfl,rfl⟩
theorem aSl (w:H):Y 70 #[.int .i64 4] w fun e w'=>e=.returned (.int .i64 49)/\w=w':=by
 go_enter Tryz.func70,Tryz.ntmps70;go_wp2;go_ret;exact⟨rfl,rfl⟩
theorem aSm (w:H):Y 70 #[.int .i64 5] w fun e w'=>e=.returned (.int .i64 0)/\w=w':=by
 go_enter Tryz.func70,Tryz.ntmps70;go_wp2;go_ret;exact⟨rfl,rfl⟩
theorem aSn (w:H):Y 70 #[.int .i64 6] w fun e w'=>e=.returned (.int .i64 0)/\w=w':=by
 go_enter Tryz.func70,Tryz.ntmps70;go_wp2;go_ret;exact⟨rfl,rfl⟩
theorem aSo (w:H):Y 70 #[.int .i64 7] w fun e w'=>e=.returned (.int .i64 256)/\w=w':=by
 go_enter Tryz.func70,Tryz.ntmps70;go_wp2;go_ret;exact⟨rfl,rfl⟩
theorem aSp (w:H):Y 70 #[.int .i64 8] w fun e w'=>e=.returned (.int .i64 765)/\w=w':=by
 go_enter Tryz.func70,Tryz.ntmps70;go_wp2;go_ret;exact⟨rfl,rfl⟩
theorem aSq (w:H):Y 70 #[.int .i64 9] w fun e w'=>e=.returned (.int .i64 3072)/\w=w':=by
 go_enter Tryz.func70,Tryz.ntmps70;go_wp2;go_ret;exact⟨rfl,rfl⟩
theorem aRi (w:H):Y 70 #[.int .i64 10] w fun e w'=>e=.returned (.int .i64 49)/\w=w':=by
 go_enter Tryz.func70,Tryz.ntmps70;go_wp2;go_ret;exact⟨rfl,rfl⟩
theorem aRj (w:H):Y 70 #[.int .i64 11] w fun e w'=>e=.returned (.int .i64 4096)/\w=w':=by
 go_enter Tryz.func70,Tryz.ntmps70;go_wp2;go_ret;exact⟨rfl,rfl⟩
theorem aRk (w:H):Y 70 #[.int .i64 12] w fun e w'=>e=.returned (.int .i64 8192)/\w=w':=by
 go_enter Tryz.func70,Tryz.ntmps70;go_wp2;go_ret;exact⟨rfl,rfl⟩
theorem aRl (w:H):Y 70 #[.int .i64 13] w fun e w'=>e=.returned (.int .i64 765)/\w=w':=by
 go_enter Tryz.func70,Tryz.ntmps70;go_wp2;go_ret;exact⟨rfl,rfl⟩
theorem aRm (w:H):Y 70 #[.int .i64 14] w fun e w'=>e=.returned (.int .i64 765)/\w=w':=by
 go_enter Tryz.func70,Tryz.ntmps70;go_wp2;go_ret;exact⟨rfl,rfl⟩
theorem aM6 (s:U)(k:Nat)(h:k<15):sT s (cU.drop k) k=if inB s (cU.getD k [])then k else sT s (cU.drop (k+1)) (k+1):=by
 have b:cU.length=15:=rfl;rw[dy (by omega)];have e:cU.getD k []=cU[k]'(by omega):=by{simp[List.getD_eq_getElem?_getD,List.getElem?_eq_getElem (show k<cU.length by omega)]};rw[e];conv=>lhs;unfold sT
theorem aAj (k:Nat):(lT k).size<=1000000000:=by
 have h:∀k<15,(cU.getD k []).length<=1000:=by{decide +kernel};have e:(lT k).size=(cU.getD k []).length:=rfl;rw[e];rcases ak k 15 with b|b;{have:=h k b;omega};{have c:cU.length=15:=rfl;rw[lg,fi (by omega)];simp}
def aR8 (s:I)(r k:Nat):Prop:=k<=15/\sT s.data.toList (cU.drop k) k=r
theorem aJb (s:I)(r:Nat)(hr:G (aS s.data.toList=r))(w:H):Y 25 #[.string s] w (O (.int .i64 (r:Nat)) w):=by
 go_enter Tryz.func25,Tryz.ntmps25;go_wp2_with fail;refine(aKR _).mono ?_;rintro e W ⟨rfl,d⟩;have q:G (w.heap.size=w.heap.size):=rfl;generalize w.heap.size=b at d;go_wp2;go_loop [2,4] (fun v i=>v=.int .i64 0/\∃k:Nat,i=.int .i64 k/\G (aR8 s r k)) (fun _ i=>15-(intOf i).toNat);case atStart=>exact⟨rfl,0,rfl,⟨ax _,(aKQ s.data.toList).trans hr.o⟩⟩
 case round =>
  obtain⟨rfl,k,rfl,j⟩:=hrel;rcases ak k 15 with f|f
  ·have p:=d.o.2 k f;have l:=aM6 s.data.toList k f;have c:=j.o.2;rw[l]at c
   cases hb:inB s.data.toList (cU.getD k [])with
   | true =>
    rw[hb,ae rfl]at c
    have h:G (inB s.data.toList (lT k).data.toList=true):=hb;have g:=Z c;clear c l hb;go_wp2_with (go_at_call 69;refine(pQ s (lT k) true h (aAj k) _).mono ?_;rintro e w' ⟨rfl,rfl⟩)
    go_ret;refine⟨?_,d.o.1⟩;rw[<-g.o];rfl
   | false =>
    rw[hb,ac (by simp)]at c
    have h:G (inB s.data.toList (lT k).data.toList=false):=hb;have g:=Z c;clear c l hb;go_wp2_with (go_at_call 69;refine(pQ s (lT k) false h (aAj k) _).mono ?_;rintro e w' ⟨rfl,rfl⟩)
    go_round
    case rel=>exact⟨rfl,k+1,by go_num,⟨f,g.o⟩⟩
    case measure=>simp[intOf];omega
  {have m:r=0:=by{have c:=j.o.2;have:k=15:=by{have:=j.o.1;omega};subst this;rw[<-c];rfl};have n:=Z m;clear m;go_wp2;go_ret;refine⟨?_,d.o.1⟩;rw[n.o];rfl}
theorem jZ (s:I)(w:H):Y 25 #[.string s] w (O (.int .i64 (aS s.data.toList:Nat)) w):=aJb s _ (Z rfl) w
open Go.RowKit
def jJ (s:I)(n:Int):Prop:=∀w,Y 25 #[.string s] w (O (.int .i64 n) w)
def aCf (n h:Int):Prop:=∀w,Y 70 #[.int .i64 n] w fun e w'=>e=.returned (.int .i64 h)/\w=w'
theorem aKH (p:Nat)(b:p<=14):aCf (p:Nat) (uE p:Nat):=by
 have h:p=0\/p=1\/p=2\/p=3\/p=4\/p=5\/p=6\/p=7\/p=8\/p=9\/p=10\/p=11\/p=12\/p=13\/p=14:=by{omega};rcases h with rfl|rfl|rfl|rfl|rfl|rfl|rfl|rfl|rfl|rfl|rfl|rfl|rfl|rfl|rfl;{exact aSh};{exact aSi};{exact aSj};{exact aSk};{exact aSl};{exact aSm};{exact aSn};{exact aSo};{exact aSp};{exact aSq};{exact aRi};{exact aRj};{exact aRk};{exact aRl};{exact aRm}
theorem aNB (p k:I)(d:G (jJ k 0))(w:H) :
  Y 27 #[.string p,.string k] w (O (.bool false) w):=by
 go_enter Tryz.func27,Tryz.ntmps27;go_wp2_with fail;refine(d.o _).mono ?_;rintro e f ⟨rfl,b⟩;have c:=Z b;clear b;go_wp2;go_ret;exact⟨rfl,c.o⟩
theorem aLp (p k:I)(P h:Int)(K:Int)(l:0<K)(m:K<=14)(_hh0:0<=h)(_hh1:h<=100000)(j:G (jJ p P))(i:G (jJ k K))(g:G (aCf P h))
  (n:(bits BinOp.and IntKind.i64 (h / 2^K.toNat) 1==1)=false) (w:H) :
  Y 27 #[.string p,.string k] w (O (.bool false) w):=by
 go_enter Tryz.func27,Tryz.ntmps27;go_wp2_with fail;refine(i.o _).mono ?_;rintro e q ⟨rfl,b⟩;have d:=Z b;clear b;go_wp2_with fail;refine(j.o _).mono ?_;rintro e r ⟨rfl,c⟩;have f:=Z (d.o.trans (c.mono d.o.size));clear c;go_wp2_with fail;refine(g.o _).mono ?_;rintro e w' ⟨rfl,rfl⟩;go_wp2;go_ret;exact⟨rfl,f.o⟩
theorem aJd (p k:I)(P h:Int)(K:Int)(l:0<K)(m:K<=14)(_hh0:0<=h)(_hh1:h<=100000)(j:G (jJ p P))(i:G (jJ k K))(g:G (aCf P h))
  (q:(bits BinOp.and IntKind.i64 (h / 2^K.toNat) 1==1)=true) (n:(K==4)=false) (w:H) :
  Y 27 #[.string p,.string k] w (O (.bool true) w):=by
 go_enter Tryz.func27,Tryz.ntmps27;go_wp2_with fail;refine(i.o _).mono ?_;rintro e r ⟨rfl,b⟩;have d:=Z b;clear b;go_wp2_with fail;refine(j.o _).mono ?_;rintro e s ⟨rfl,c⟩;have f:=Z (d.o.trans (c.mono d.o.size));clear c;go_wp2_with fail;refine(g.o _).mono ?_;rintro e w' ⟨rfl,rfl⟩;go_wp2;go_ret;exact⟨rfl,f.o⟩
theorem aNC (p k:I)(P h:Int)(b:Bool)(_hh0:0<=h)(_hh1:h<=100000)(l:G (jJ p P))(j:G (jJ k 4))(i:G (aCf P h))
  (n:(bits BinOp.and IntKind.i64 (h / 16) 1==1)=true) (m:(p.toList==k.toList)=b) (w:H) :
  Y 27 #[.string p,.string k] w (O (.bool (!b)) w):=by
 go_enter Tryz.func27,Tryz.ntmps27;go_wp2_with fail;refine(j.o _).mono ?_;rintro e q ⟨rfl,c⟩;have f:=Z c;clear c;go_wp2_with fail;refine(l.o _).mono ?_;rintro e r ⟨rfl,d⟩;have g:=Z (f.o.trans (d.mono f.o.size));clear d;go_wp2_with fail;refine(i.o _).mono ?_;rintro e w' ⟨rfl,rfl⟩;go_wp2
 all_goals
  go_ret;refine⟨?_,g.o⟩;rfl
theorem aFF:∀p<15,∀k<15,(bits BinOp.and IntKind.i64 (((uE p:Nat):Int) / 2^((k:Nat):Int).toNat) 1==1)=decide (uE p / 2^k%2=1):=by decide +kernel
theorem aKI:∀p<15,uE p<=100000:=by decide +kernel
theorem aJc (p k:I)(w:H):Y 27 #[.string p,.string k] w (O (.bool (yP p.data.toList k.data.toList)) w):=by
 have d:jJ p (aS p.data.toList:Nat):=fun w=>jZ p w;have c:jJ k (aS k.data.toList:Nat):=fun w=>jZ k w;have n:=mM k.data.toList;have j:=mM p.data.toList;have i:(k.data.toList==p.data.toList)=(p.toList==k.toList):=by{rw[toList_data,toList_data,ba];simp only[cv];exact⟨fun e=>e.symm,fun e=>e.symm⟩};have g:(p.toList==k.toList)=true->aS p.data.toList=aS k.data.toList:=by{intro h;rw[<-i]at h;rw[cv.1 h]};unfold yP;rw[i];generalize aS k.data.toList=K at c n g;generalize aS p.data.toList=P at d j g;rw[<-aNj P (by omega) K (by omega) _ g];have b:=aFF P (by omega) K (by omega);have f:=aKH P j;have q:=aKI P (by omega);by_cases m:K=0;{subst m;exact aNB p k (Z c) w}
 ·have l:decide (0<K)=true:=by simp;omega
  rw[l,jz];cases ht:decide (uE P / 2^K%2=1)with
  | false =>
   rw[ht]at b
   rw[ly];exact aLp p k P (uE P) K (by omega) (by omega) (by omega) (by omega) (Z d) (Z c) (Z f) b w
  | true =>
   rw[ht]at b
   rw[jz];by_cases k4:K=4
   ·subst k4;have e4:decide (4=4)=true:=rfl;rw[e4,jz];exact aNC p k P (uE P) _ (by omega) (by omega) (Z d) (Z c) (Z f) b rfl w
   ·have e4:decide (K=4)=false:=by simp[k4]
    rw[e4,ly];exact aJd p k P (uE P) K (by omega) (by omega) (by omega) (by omega) (Z d) (Z c) (Z f) b (by rw[ai];omega) w
theorem aHs (p:I)(P h:Int)(b:Bool)(_hh0:0<=h)(_hh1:h<=100000)(g:G (jJ p P))(f:G (aCf P h))
  (i:(bits BinOp.and IntKind.i64 h 1==1)=b) (w:H) :
  Y 29 #[.string p] w (O (.bool b) w):=by
 go_enter Tryz.func29,Tryz.ntmps29;go_wp2_with fail;refine(g.o _).mono ?_;rintro e j ⟨rfl,c⟩;have d:=Z c;clear c;go_wp2_with fail;refine(f.o _).mono ?_;rintro e w' ⟨rfl,rfl⟩;go_wp2
 all_goals
  go_ret;refine⟨?_,d.o⟩;rfl
theorem aGC (p:I)(w:H):Y 29 #[.string p] w (O (.bool (oG p.data.toList)) w):=by
 have b:jJ p (aS p.data.toList:Nat):=fun w=>jZ p w;have c:=mM p.data.toList;unfold oG;generalize aS p.data.toList=P at b c;rw[<-aJv P (by omega)];have d:=aFF P (by omega) 0 (by omega);have e:=aKI P (by omega);refine aHs p P (uE P) _ (by omega) (by omega) (Z b) (Z (aKH P c)) ?_ w;simpa using d
theorem tP (old d:U)(c:old≠[]):Lib.replaceAll [] old d=[]:=by
 unfold Lib.replaceAll Lib.replace;split;{rfl};{have h:Lib.index [] old=-1:=by{cases old with|nil=>exact absurd rfl c|cons a t=>rfl};have b:Lib.replaceNum [] old (-1)=Lib.count [] old:=ae (Or.inl (by omega));rw[b,pb h];rfl}
theorem sZ (s old b:U)(d:old≠b):Lib.replaceAll s old b=Lib.replaceK old b (Lib.count s old) s:=by
 unfold Lib.replaceAll Lib.replace;rw[ac (by simpa using d)];have c:Lib.replaceNum s old (-1)=Lib.count s old:=ae (Or.inl (by omega));rw[c]
theorem tO (c new b:U)(f:c≠[])(e:c≠new):Lib.replaceAll (c++b) c new=new++Lib.replaceAll b c new:=by
 have hi:Lib.index (c++b) c=(0:Nat):=by{cases c with|nil=>exact absurd rfl f|cons a t=>{show(if (a :: t).isPrefixOf (a :: (t++b))then (0:Int)else _)=_;rw[ae (by rw[qj];exact⟨b,rfl⟩)];rfl}};have d:=pd f hi;rw[be,ig]at d;rw[sZ _ _ _ e,sZ _ _ _ e,d,ju 1,kt c new _ _ 0 hi,be,ig];rfl
theorem mS (b new:U)(c:UInt8)(l:U)(k:b≠[])(j:b≠new)(h:b.isPrefixOf (c :: l)=false):Lib.replaceAll (c :: l) b new=c :: Lib.replaceAll l b new:=by
 have e:Lib.index (c :: l) b=if Lib.index l b==-1 then -1 else Lib.index l b+1:=by{show(if b.isPrefixOf (c :: l)then (0:Int)else _)=_;rw[h];rfl}
 rw[sZ _ _ _ j,sZ _ _ _ j];by_cases g:Lib.index l b=-1;{rw[g]at e;rw[pb g,pb (show Lib.index (c :: l) b=-1 from e)];rfl};{have m:=sq l b;obtain⟨i,hi⟩:∃i:Nat,Lib.index l b=i:=⟨(Lib.index l b).toNat,by omega⟩;rw[hi,ac (by simp)]at e;have d:Lib.index (c :: l) b=((i+1:Nat):Int):=e;have h1:=pd k hi;have f:=pd k d;have hd:(c :: l).drop (i+1+b.length)=l.drop (i+b.length):=by{rw[show i+1+b.length=i+b.length+1 by omega,dj]};rw[hd,<-h1]at f;rw[f,h1,ju 1,kt b new _ _ _ d,kt b new _ _ _ hi,hd];rfl}
theorem uL (o:UInt8)(d new:U)(g:o :: d≠new):∀(a b:U),o∉a->Lib.replaceAll (a++b) (o :: d) new=a++Lib.replaceAll b (o :: d) new:=by
 intro a b;induction a with|nil=>{intro _;rfl}|cons c a ih=>{intro h;rw[dh,mS _ _ _ _ (by simp) g,ih (fun f=>h (ew _ f))];{rfl};{have:(o==c)=false:=by{rw[ai];intro e;exact h (e▸eh)};show((o==c)&&_)=false;rw[this];rfl}}
def eZ:U->U
 | []=>[]
 | c :: l=>if c=38 then [38,97,109,112,59]++eZ l else if c=60 then [38,108,116,59]++eZ l else if c=62 then [38,103,116,59]++eZ l else if c=34 then [38,113,117,111,116,59]++eZ l
  else if c=194/\l.head?=some 160 then [38,110,98,115,112,59]++eZ (l.drop 1)else c :: eZ l
termination_by l=>l.length
decreasing_by all_goals (simp;try omega)
def rp1 (l:U):=Lib.replaceAll l [38] [38,97,109,112,59]
def rp2 (l:U):=Lib.replaceAll l [194,160] [38,110,98,115,112,59]
def rp3 (l:U):=Lib.replaceAll l [60] [38,108,116,59]
def rp4 (l:U):=Lib.replaceAll l [62] [38,103,116,59]
def rp5 (l:U):=Lib.replaceAll l [34] [38,113,117,111,116,59]
theorem aP4 (c:UInt8)(l:U)(i:c≠38)(j:c≠60)(k:c≠62)(m:c≠34)(b:c≠194\/(rp1 l).head?≠some 160):rp5 (rp4 (rp3 (rp2 (rp1 (c :: l)))))=c :: rp5 (rp4 (rp3 (rp2 (rp1 l)))):=by
 have one:∀(o:UInt8) (l:U),c≠o->[o].isPrefixOf (c :: l)=false:=fun o l h=>by{show((o==c)&&_)=false;rw[ai.2 fun e=>h e.symm];rfl};have f:rp1 (c :: l)=c :: rp1 l:=mS _ _ c l (by simp) (by simp) (one _ _ i);have g:rp2 (c :: rp1 l)=c :: rp2 (rp1 l):=by{refine mS _ _ c _ (by simp) (by simp) ?_;show((194==c)&&[160].isPrefixOf (rp1 l))=false;rcases b with b|b;{rw[ai.2 fun e=>b e.symm];rfl};{cases hh:rp1 l with|nil=>{rw[Bool.and_comm];rfl}|cons d t=>{rw[hh]at b;have:((160:UInt8)==d)=false:=ai.2 fun e=>b (by rw[<-e];rfl);show((194==c)&&((160==d)&&_))=false;rw[this,ly,Bool.and_false]}}};have e3:∀l,rp3 (c :: l)=c :: rp3 l:=fun l=>mS _ _ c l (by simp) (by simp) (one _ _ j);have e4:∀l,rp4 (c :: l)=c :: rp4 l:=fun l=>mS _ _ c l (by simp) (by simp) (one _ _ k);have e5:∀l,rp5 (c :: l)=c :: rp5 l:=fun l=>mS _ _ c l (by simp) (by simp) (one _ _ m);rw[f,g,e3,e4,e5]
theorem aNI (l:U)(h:l.head?≠some 160):(rp1 l).head?≠some 160:=by
 cases l with
 | nil=>unfold rp1;rw[tP _ _ (by simp)];simp
 | cons c l =>
  by_cases b:c=38
  ·subst b;have:rp1 (38 :: l)=[38,97,109,112,59]++rp1 l:=tO [38] _ l (by simp) (by simp);rw[this];simp
  ·have:rp1 (c :: l)=c :: rp1 l:=mS _ _ c l (by simp) (by simp) (by
    show((38==c)&&_)=false;rw[ai.2 fun e=>b e.symm];rfl)
   rw[this];exact h
theorem aRM:∀(n:Nat) (l:U),l.length<=n->rp5 (rp4 (rp3 (rp2 (rp1 l))))=eZ l:=by
 intro n;have k2:∀a b:U,(194:UInt8)∉a->rp2 (a++b)=a++rp2 b:=uL 194 [160] _ (by simp);have k3:∀a b:U,(60:UInt8)∉a->rp3 (a++b)=a++rp3 b:=uL 60 [] _ (by simp);have k4:∀a b:U,(62:UInt8)∉a->rp4 (a++b)=a++rp4 b:=uL 62 [] _ (by simp);have k5:∀a b:U,(34:UInt8)∉a->rp5 (a++b)=a++rp5 b:=uL 34 [] _ (by simp);induction n with
 | zero =>
  intro l m;obtain rfl:l=[]:=fv (by omega);unfold rp1 rp2 rp3 rp4 rp5 eZ;rw[tP _ _ (by simp),tP _ _ (by simp),tP _ _ (by simp),tP _ _ (by simp),tP _ _ (by simp)]
 | succ n ih =>
  intro l m;cases l with
  | nil=>exact ih [] (by simp)
  | cons c l =>
   have g:l.length<=n:=by simpa using m
   unfold eZ;by_cases c1:c=38
   ·subst c1;rw[ae rfl,<-ih l g];have:rp1 (38 :: l)=[38,97,109,112,59]++rp1 l:=tO [38] _ l (by simp) (by simp);rw[this,k2 _ _ (by decide),k3 _ _ (by decide),k4 _ _ (by decide),k5 _ _ (by decide)]
   rw[ac c1];have i:rp1 (c :: l)=c :: rp1 l:=mS _ _ c l (by simp) (by simp) (by
    show((38==c)&&_)=false;rw[ai.2 fun e=>c1 e.symm];rfl)
   by_cases c2:c=60
   ·subst c2;rw[ae rfl,<-ih l g,i];have f:rp2 (60 :: rp1 l)=60 :: rp2 (rp1 l):=k2 [60] _ (by decide);have e3:∀x,rp3 (60 :: x)=[38,108,116,59]++rp3 x:=fun x=>tO [60] _ x (by simp) (by simp)
    rw[f,e3,k4 _ _ (by decide),k5 _ _ (by decide)]
   rw[ac c2];by_cases c3:c=62
   ·subst c3;rw[ae rfl,<-ih l g,i];have f:rp2 (62 :: rp1 l)=62 :: rp2 (rp1 l):=k2 [62] _ (by decide);have e3:∀x,rp3 (62 :: x)=62 :: rp3 x:=fun x=>k3 [62] _ (by decide)
    have e4:∀x,rp4 (62 :: x)=[38,103,116,59]++rp4 x:=fun x=>tO [62] _ x (by simp) (by simp)
    rw[f,e3,e4,k5 _ _ (by decide)]
   rw[ac c3];by_cases c4:c=34
   ·subst c4;rw[ae rfl,<-ih l g,i];have f:rp2 (34 :: rp1 l)=34 :: rp2 (rp1 l):=k2 [34] _ (by decide);have e3:∀x,rp3 (34 :: x)=34 :: rp3 x:=fun x=>k3 [34] _ (by decide)
    have e4:∀x,rp4 (34 :: x)=34 :: rp4 x:=fun x=>k4 [34] _ (by decide)
    have e5:∀x,rp5 (34 :: x)=[38,113,117,111,116,59]++rp5 x:=fun x=>tO [34] _ x (by simp) (by simp)
    rw[f,e3,e4,e5]
   rw[ac c4];by_cases c5:c=194/\l.head?=some 160
   ·rw[ae c5];obtain⟨rfl,k⟩:=c5;cases l with
    | nil=>cases k
    | cons d l =>
     obtain rfl:d=160:=by simpa using k
     have q:l.length<=n:=by simp at g;omega
     show _=[38,110,98,115,112,59]++eZ l;rw[<-ih l q,i];have p:rp1 (160 :: l)=160 :: rp1 l:=uL 38 [] _ (by simp) [160] l (by decide);have f:∀x,rp2 (194 :: 160 :: x)=[38,110,98,115,112,59]++rp2 x:=fun x=>tO [194,160] _ x (by simp) (by simp)
     rw[p,f,k3 _ _ (by decide),k4 _ _ (by decide),k5 _ _ (by decide)]
   ·rw[ac c5,aP4 c l c1 c2 c3 c4 ?_,ih l g];by_cases j:c=194
    ·exact .inr (aNI l fun h=>c5 ⟨j,h⟩)
    ·exact .inl j
open Go.RowKit
theorem aO5 (s:I):iQ s=⟨(eZ s.data.toList).toArray⟩:=by
 refine eY ?_;show rp5 (rp4 (rp3 (rp2 (rp1 s.data.toList))))=_;rw[aRM _ _ aCV]
structure eK (s:U) (k:Nat) (bs:U):Prop where
 le:k<=s.length
 sz:bs.length<=6*k
 o:eZ s=bs++eZ (s.drop k)
theorem eK.start (s:U):eK s 0 []:=⟨ax _,ag _,rfl⟩
theorem eK.put {s:U}{k:Nat}{b:U}(h:eK s k b)(c:k<s.length)(o:UInt8)(t:U)(e:s[k]=o)(g:t.length<=6)
  (d:∀l,eZ (o :: l)=t++eZ l):eK s (k+1) (b++t):=by
 have f:=h.sz;refine⟨c,by rw[aw];omega,?_⟩;rw[h.o,dy c,e,d,ct]
theorem aQ5 (l:U):eZ (38 :: l)=[38,97,109,112,59]++eZ l:=by
 conv=>lhs;unfold eZ
 rfl
theorem eK.amp {s:U}{k:Nat}{b:U}(h:eK s k b)(d:k<s.length)(c:s[k]=38):eK s (k+1) (b++[38,97,109,112,59]):=h.put d 38 [38,97,109,112,59] c (by decide) aQ5
theorem aQ6 (l:U):eZ (60 :: l)=[38,108,116,59]++eZ l:=by
 conv=>lhs;unfold eZ
 rfl
theorem eK.lt {s:U}{k:Nat}{b:U}(h:eK s k b)(d:k<s.length)(c:s[k]=60):eK s (k+1) (b++[38,108,116,59]):=h.put d 60 [38,108,116,59] c (by decide) aQ6
theorem aQ7 (l:U):eZ (62 :: l)=[38,103,116,59]++eZ l:=by
 conv=>lhs;unfold eZ
 rfl
theorem eK.gt {s:U}{k:Nat}{b:U}(h:eK s k b)(d:k<s.length)(c:s[k]=62):eK s (k+1) (b++[38,103,116,59]):=h.put d 62 [38,103,116,59] c (by decide) aQ7
theorem aQ4 (l:U):eZ (34 :: l)=[38,113,117,111,116,59]++eZ l:=by
 conv=>lhs;unfold eZ
 rfl
theorem eK.quot {s:U}{k:Nat}{b:U}(h:eK s k b)(d:k<s.length)(c:s[k]=34):eK s (k+1) (b++[38,113,117,111,116,59]):=h.put d 34 [38,113,117,111,116,59] c (by decide) aQ4
theorem eK.nbsp {s:U}{k:Nat}{c:U}(h:eK s k c)(d:[194,160].isPrefixOf (s.drop k)=true):eK s (k+2) (c++[38,110,98,115,112,59]):=by
 have g:=h.sz;rw[qj]at d;obtain⟨t,b⟩:=d;have f:k+2<=s.length:=by{have:=az List.length b;simp only[aw,bw,cu,bn]at this;omega};have e:s.drop (k+2)=t:=by{rw[<-jd,<-b];rfl};refine⟨f,by rw[aw];simp;omega,?_⟩;rw[h.o,e,<-b,ct];congr 1;show eZ (194 :: 160 :: t)=_;conv=>lhs;unfold eZ
 rfl
theorem eK.rest {s:U}{k:Nat}{e:U}(h:eK s k e)(c:k<s.length)(f:s[k]≠38)(g:s[k]≠60)(i:s[k]≠62)(j:s[k]≠34)(b:[194,160].isPrefixOf (s.drop k)=false):eK s (k+1) (e++[s[k]]):=by
 have l:=h.sz;refine⟨c,by rw[aw];simp;omega,?_⟩;rw[dy c]at b;rw[h.o,dy c,ct];congr 1;conv=>lhs;unfold eZ
 rw[ac f,ac g,ac i,ac j,ac ?_];{rfl}
 ·rintro⟨c1,c2⟩;rw[c1]at b
  cases hd:s.drop (k+1)with
  | nil=>rw[hd]at c2;cases c2
  | cons d t =>
   rw[hd]at c2 b
   obtain rfl:d=160:=by simpa using c2
   simp at b
theorem eK.done {s:U}{k:Nat}{bs:U}(h:eK s k bs)(b:s.length<=k):eZ s=bs:=by
 rw[h.o,d6 b];unfold eZ;rw[dc]
theorem aFS (s:I)(k:Nat):(s.extract k s.size).data.toList=s.data.toList.drop k:=by
 rw[ByteArray.data_extract,Array.toList_extract];simp[List.extract];have:s.size=s.data.toList.length:=rfl;rw[this];exact cy (by simp)
theorem aIx (s t:I)(w:H):Y 154 #[.string s,.string t] w fun e w'=>e=.returned (.bool (t.data.toList.isPrefixOf s.data.toList))/\w=w':=by
 rcases ak s.size t.size with h|h;{have c:t.data.toList.isPrefixOf s.data.toList=false:=by{rw[<-Bool.not_eq_true,qj];intro d;have:=d.length_le;have f:t.data.toList.length=t.size:=rfl;have g:s.data.toList.length=s.size:=rfl;omega};rw[c];clear c;go_enter Tryz.func154,Tryz.ntmps154;go_wp2;go_ret;exact⟨rfl,rfl⟩};{have hx:((s.extract 0 t.size).toList==t.toList)=t.data.toList.isPrefixOf s.data.toList:=by{rw[jL,toList_data,ba,cv,qj,vq];unfold fY;rw[dt];exact eq_comm};generalize t.data.toList.isPrefixOf s.data.toList=b at *;go_enter Tryz.func154,Tryz.ntmps154;go_wp2;go_ret;exact⟨rfl,rfl⟩}
section
variable {ops:Array Oper} {rest:List Oper} {o:Oper} {a:Act} {Q:Exit->Act->H->Prop}
theorem gW {w:H}(j:o.guard=none)(sl x:Operand)(l:o.op=.call { callee:=.builtin .append,args:=#[sl,x],argTypes:=#[35,9] })
  (i:TypeInfo) (hi:Tryz.prog.info? 5=some i) (q:i.zero=some (.int .u8 0)) (p:i.size=1) (g:i.bytes=1)
  {B:Nat} {d:H} (v:Value) (b L:U) (n:a.eval sl=v) (c:aJ B 5 1 v b.length (b.map dW) d w)
  (s:I) (hx:a.eval x=.string s) (e:s.data.toList=L) (r:b.length+L.length<=140737488355328)
  (h:∀v' w',G (aJ B 5 1 v' (b++L).length ((b++L).map dW) d w')->wpList Tryz.prog ops Q rest (a.put o.dst v') w'):wpList Tryz.prog ops Q (o :: rest) a w:=by
 have k:s.size=L.length:=by{rw[<-e];rfl};refine Lib.wpList_append_own_string _ j sl x 35 9 l B 5 i Tryz.underlying35 Tryz.underlying9 hi q p g v b.length _ n c.own s hx (by unfold maxLen;omega) (by omega) c.base ?_;intro v' w' m f _;refine h v' w' (aJ.cast ⟨m,c.bel.grown f c.base c.lo,bg c.base f.size⟩ (by rw[aw,k]) ?_);rw[lf,<-e];rfl
end
theorem aND (s:I)(X:s.size<=20000000)(w:H):Y 96 #[.string s,.bool true] w (O (.string (iQ s)) w):=by
 obtain⟨u,hi,q,r,t⟩:=cq Tryz.info5;rw[aO5];go_enter Tryz.func96,Tryz.ntmps96;go_wp2;go_loopw [5,6] (fun o i wx=>∃(k:Nat) (b:U),i=.int .i64 k/\G (eK s.data.toList k b)/\G (aJ w.heap.size 5 1 o b.length (b.map dW) w wx)) (fun _ i _=>s.size-(intOf i).toNat);case atStart=>exact⟨0,[],rfl,Z (eK.start _),Z (aJ.nil w 5 1)⟩
 case round =>
  obtain⟨k,b,rfl,h,j⟩:=hrel;have V:k<=s.size:=h.o.le;have aa:=h.o.sz;rcases ak k s.size with p|K
  ·have S:=s[k].toNat_lt;have y:=Z (h.o.amp p);have A:=Z (h.o.lt p);have z:=Z (h.o.gt p);have B:=Z (h.o.quot p);have F:=Z h.o.nbsp;have C:=Z (h.o.rest p);have e:s.data.toList[k]'p=s[k]:=rfl;rw[e]at y A z B C;clear e;by_cases f:s[k]=38;{have HF:=Z (y.o f);have L:((s[k].toNat:Int)==38)=true:=by{rw[f];rfl};clear f;go_wp2_with (at_builtin;refine gW (by rfl) _ _ (by rfl) u hi q r t _ b [38,97,109,112,59] rfl j.o _ rfl rfl (by simp;omega) ?_);intro v' w' d;go_wp2;go_roundw;(case rel=>exact⟨k+1,_,by go_num,HF,Z (d.o.cast (by simp) (by simp))⟩);case measure=>simp[intOf];omega};have L:((s[k].toNat:Int)==38)=false:=by{rw[ai];exact fun e=>f (dx.1 (by show _=38;omega))};by_cases g:s[k]=60;{have HF:=Z (A.o g);have M:((s[k].toNat:Int)==60)=true:=by{rw[g];rfl};clear f g;go_wp2_with (at_builtin;refine gW (by rfl) _ _ (by rfl) u hi q r t _ b [38,108,116,59] rfl j.o _ rfl rfl (by simp;omega) ?_);intro v' w' d;go_wp2;go_roundw;(case rel=>exact⟨k+1,_,by go_num,HF,Z (d.o.cast (by simp) (by simp))⟩);case measure=>simp[intOf];omega};have M:((s[k].toNat:Int)==60)=false:=by{rw[ai];exact fun e=>g (dx.1 (by show _=60;omega))};by_cases l:s[k]=62;{have HF:=Z (z.o l);have N:((s[k].toNat:Int)==62)=true:=by{rw[l];rfl};clear f g l;go_wp2_with (at_builtin;refine gW (by rfl) _ _ (by rfl) u hi q r t _ b [38,103,116,59] rfl j.o _ rfl rfl (by simp;omega) ?_);intro v' w' d;go_wp2;go_roundw;(case rel=>exact⟨k+1,_,by go_num,HF,Z (d.o.cast (by simp) (by simp))⟩);case measure=>simp[intOf];omega};have N:((s[k].toNat:Int)==62)=false:=by{rw[ai];exact fun e=>l (dx.1 (by show _=62;omega))};by_cases m:s[k]=34;{have HF:=Z (B.o m);have R:((s[k].toNat:Int)==34)=true:=by{rw[m];rfl};clear f g l m;go_wp2_with (at_builtin;refine gW (by rfl) _ _ (by rfl) u hi q r t _ b [38,113,117,111,116,59] rfl j.o _ rfl rfl (by simp;omega) ?_);intro v' w' d;go_wp2;go_roundw;(case rel=>exact⟨k+1,_,by go_num,HF,Z (d.o.cast (by simp) (by simp))⟩);case measure=>simp[intOf];omega};have R:((s[k].toNat:Int)==34)=false:=by{rw[ai];exact fun e=>m (dx.1 (by show _=34;omega))};have n:∀W,Y 154 #[.string (s.extract k s.size),.string ⟨#[194,160]⟩] W fun e w'=>e=.returned (.bool ([194,160].isPrefixOf (s.data.toList.drop k)))/\W=w':=fun W=>by{have:=aIx (s.extract k s.size) ⟨#[194,160]⟩ W;rw[aFS]at this;exact this}
   cases hp:[194,160].isPrefixOf (s.data.toList.drop k)with
   | true =>
    have HF:=Z (F.o hp);rw[hp]at n
    have v:=Z n;clear f g l m hp n;go_wp2_with fail
    refine(v.o _).mono ?_;rintro x w' ⟨rfl,rfl⟩;go_wp2_with (at_builtin;refine gW (by rfl) _ _ (by rfl) u hi q r t _ b [38,110,98,115,112,59] rfl j.o _ rfl rfl (by simp;omega) ?_)
    intro v' w' d;go_wp2
    go_roundw
    case rel=>exact⟨k+1+1,_,by go_num,HF,Z (d.o.cast (by simp) (by simp))⟩
    case measure=>simp[intOf];omega
   | false =>
    have HF:=Z (C.o f g l m hp);rw[hp]at n
    have v:=Z n;clear f g l m hp n;go_wp2_with fail
    refine(v.o _).mono ?_;rintro x w' ⟨rfl,rfl⟩;go_wp2_with (at_builtin;refine bE (by rfl) _ _ 35 (by rfl) 5 u (.int .u8 0) 1 1 Tryz.underlying35 hi q r t rfl (by decide) _ _ _ rfl j.o #[.int .u8 s[k].toNat] rfl rfl rfl rfl (by omega) (by omega) ?_)
    intro v' w' d _;go_wp2
    go_roundw
    case rel=>exact⟨k+1,b++[s[k]],by go_num,HF,Z (d.o.cast (by simp) (by simp[dW]))⟩
    case measure=>simp[intOf];omega
  {have J:=Z (h.o.done K);obtain⟨a,c,rfl,hac,_⟩:=j.o.slice;have D:=j.o.isB rfl;have T:=rX (P:=Tryz.prog) wr 35 5 9 Tryz.underlying35 Tryz.underlying5 Tryz.underlying9 a b b.length c rfl D;have E:=Z j.o.bel;clear D;go_wp2;go_ret;exact⟨by rw[J.o];rfl,E.o⟩}
