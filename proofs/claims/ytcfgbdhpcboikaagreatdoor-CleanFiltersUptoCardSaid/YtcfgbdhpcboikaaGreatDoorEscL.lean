/-
refs.Escape by ReplaceAll, and the document's Escape byte by byte: the same text. No program in sight.
-/
import Derived.Test.YtcfgbdhpcboikaaGreatDoorRefVL
import Derived.Test.YtcfgbdhpcboikaaGreatDoorRPrint
namespace Go.Proofs.YtcfgbdhpcboikaaGreatDoor
set_option maxHeartbeats 4000000
set_option maxRecDepth 100000
theorem rS (old d:U)(c:old≠[]):Lib.replaceAll [] old d=[]:=by
 unfold Lib.replaceAll Lib.replace;split;{rfl};{have h:Lib.index [] old=-1:=by{cases old with|nil=>exact absurd rfl c|cons a t=>rfl};have b:Lib.replaceNum [] old (-1)=Lib.count [] old:=af (Or.inl (by omega));rw[b,og h];rfl}
theorem rE (s old b:U)(d:old≠b):Lib.replaceAll s old b=Lib.replaceK old b (Lib.count s old) s:=by
 unfold Lib.replaceAll Lib.replace;rw[ae (by simpa using d)];have c:Lib.replaceNum s old (-1)=Lib.count s old:=af (Or.inl (by omega));rw[c]
theorem rR (c new b:U)(f:c≠[])(e:c≠new):Lib.replaceAll (c++b) c new=new++Lib.replaceAll b c new:=by
 have hi:Lib.index (c++b) c=(0:Nat):=by{cases c with|nil=>exact absurd rfl f|cons a t=>{show(if (a :: t).isPrefixOf (a :: (t++b))then (0:Int)else _)=_;rw[af (by rw[pj];exact⟨b,rfl⟩)];rfl}};have d:=oq f hi;rw[bw,gy]at d;rw[rE _ _ _ e,rE _ _ _ e,d,ki 1,jw c new _ _ 0 hi,bw,gy];rfl
theorem lM (b new:U)(c:UInt8)(l:U)(k:b≠[])(j:b≠new)(h:b.isPrefixOf (c :: l)=false):Lib.replaceAll (c :: l) b new=c :: Lib.replaceAll l b new:=by
 have e:Lib.index (c :: l) b=if Lib.index l b==-1 then -1 else Lib.index l b+1:=by{show(if b.isPrefixOf (c :: l)then (0:Int)else _)=_;rw[h];rfl}
 rw[rE _ _ _ j,rE _ _ _ j];by_cases g:Lib.index l b=-1;{rw[g]at e;rw[og g,og (show Lib.index (c :: l) b=-1 from e)];rfl};{have m:=rr l b;obtain⟨i,hi⟩:∃i:Nat,Lib.index l b=i:=⟨(Lib.index l b).toNat,by omega⟩;rw[hi,ae (by simp)]at e;have d:Lib.index (c :: l) b=((i+1:Nat):Int):=e;have h1:=oq k hi;have f:=oq k d;have hd:(c :: l).drop (i+1+b.length)=l.drop (i+b.length):=by{rw[show i+1+b.length=i+b.length+1 by omega,fo]};rw[hd,<-h1]at f;rw[f,h1,ki 1,jw b new _ _ _ d,jw b new _ _ _ hi,hd];rfl}
theorem sS (o:UInt8)(d new:U)(g:o :: d≠new):∀(a b:U),o∉a->Lib.replaceAll (a++b) (o :: d) new=a++Lib.replaceAll b (o :: d) new:=by
 intro a b;induction a with|nil=>{intro _;rfl}|cons c a ih=>{intro h;rw[dw,lM _ _ _ _ (by simp) g,ih (fun f=>h (d7 _ f))];{rfl};{have:(o==c)=false:=by{rw[ai];intro e;exact h (e▸du)};show((o==c)&&_)=false;rw[this];rfl}}
def dU:U->U
 | []=>[]
 | c :: l=>if c=38 then [38,97,109,112,59]++dU l else if c=60 then [38,108,116,59]++dU l else if c=62 then [38,103,116,59]++dU l else if c=34 then [38,113,117,111,116,59]++dU l
  else if c=194/\l.head?=some 160 then [38,110,98,115,112,59]++dU (l.drop 1)else c :: dU l
termination_by l=>l.length
decreasing_by all_goals (simp;try omega)
def rp1 (l:U):=Lib.replaceAll l [38] [38,97,109,112,59]
def rp2 (l:U):=Lib.replaceAll l [194,160] [38,110,98,115,112,59]
def rp3 (l:U):=Lib.replaceAll l [60] [38,108,116,59]
def rp4 (l:U):=Lib.replaceAll l [62] [38,103,116,59]
def rp5 (l:U):=Lib.replaceAll l [34] [38,113,117,111,116,59]
theorem aO3 (c:UInt8)(l:U)(i:c≠38)(j:c≠60)(k:c≠62)(m:c≠34)(b:c≠194\/(rp1 l).head?≠some 160):rp5 (rp4 (rp3 (rp2 (rp1 (c :: l)))))=c :: rp5 (rp4 (rp3 (rp2 (rp1 l)))):=by
 have one:∀(o:UInt8) (l:U),c≠o->[o].isPrefixOf (c :: l)=false:=fun o l h=>by{show((o==c)&&_)=false;rw[ai.2 fun e=>h e.symm];rfl};have f:rp1 (c :: l)=c :: rp1 l:=lM _ _ c l (by simp) (by simp) (one _ _ i);have g:rp2 (c :: rp1 l)=c :: rp2 (rp1 l):=by{refine lM _ _ c _ (by simp) (by simp) ?_;show((194==c)&&[160].isPrefixOf (rp1 l))=false;rcases b with b|b;{rw[ai.2 fun e=>b e.symm];rfl};{cases hh:rp1 l with|nil=>{rw[Bool.and_comm];rfl}|cons d t=>{rw[hh]at b;have:((160:UInt8)==d)=false:=ai.2 fun e=>b (by rw[<-e];rfl);show((194==c)&&((160==d)&&_))=false;rw[this,lf,Bool.and_false]}}};have e3:∀l,rp3 (c :: l)=c :: rp3 l:=fun l=>lM _ _ c l (by simp) (by simp) (one _ _ j);have e4:∀l,rp4 (c :: l)=c :: rp4 l:=fun l=>lM _ _ c l (by simp) (by simp) (one _ _ k);have e5:∀l,rp5 (c :: l)=c :: rp5 l:=fun l=>lM _ _ c l (by simp) (by simp) (one _ _ m);rw[f,g,e3,e4,e5]
theorem aMJ (l:U)(h:l.head?≠some 160):(rp1 l).head?≠some 160:=by
 cases l with
 | nil=>unfold rp1;rw[rS _ _ (by simp)];simp
 | cons c l =>
  by_cases b:c=38
  ·subst b;have:rp1 (38 :: l)=[38,97,109,112,59]++rp1 l:=rR [38] _ l (by simp) (by simp);rw[this];simp
  ·have:rp1 (c :: l)=c :: rp1 l:=lM _ _ c l (by simp) (by simp) (by
    show((38==c)&&_)=false;rw[ai.2 fun e=>b e.symm];rfl)
   rw[this];exact h
theorem aQN:∀(n:Nat) (l:U),l.length<=n->rp5 (rp4 (rp3 (rp2 (rp1 l))))=dU l:=by
 intro n;have k2:∀a b:U,(194:UInt8)∉a->rp2 (a++b)=a++rp2 b:=sS 194 [160] _ (by simp);have k3:∀a b:U,(60:UInt8)∉a->rp3 (a++b)=a++rp3 b:=sS 60 [] _ (by simp);have k4:∀a b:U,(62:UInt8)∉a->rp4 (a++b)=a++rp4 b:=sS 62 [] _ (by simp);have k5:∀a b:U,(34:UInt8)∉a->rp5 (a++b)=a++rp5 b:=sS 34 [] _ (by simp);induction n with
 | zero =>
  intro l t;obtain rfl:l=[]:=fj (by omega);unfold rp1 rp2 rp3 rp4 rp5 dU;rw[rS _ _ (by simp),rS _ _ (by simp),rS _ _ (by simp),rS _ _ (by simp),rS _ _ (by simp)]
 | succ n ih =>
  intro l t;cases l with
  | nil=>exact ih [] (by simp)
  | cons c l =>
   have g:l.length<=n:=by simpa using t
   unfold dU;by_cases i:c=38
   ·subst i;rw[af rfl,<-ih l g];have:rp1 (38 :: l)=[38,97,109,112,59]++rp1 l:=rR [38] _ l (by simp) (by simp);rw[this,k2 _ _ (by decide),k3 _ _ (by decide),k4 _ _ (by decide),k5 _ _ (by decide)]
   rw[ae i];have k:rp1 (c :: l)=c :: rp1 l:=lM _ _ c l (by simp) (by simp) (by
    show((38==c)&&_)=false;rw[ai.2 fun e=>i e.symm];rfl)
   by_cases m:c=60
   ·subst m;rw[af rfl,<-ih l g,k];have f:rp2 (60 :: rp1 l)=60 :: rp2 (rp1 l):=k2 [60] _ (by decide);have e3:∀x,rp3 (60 :: x)=[38,108,116,59]++rp3 x:=fun x=>rR [60] _ x (by simp) (by simp)
    rw[f,e3,k4 _ _ (by decide),k5 _ _ (by decide)]
   rw[ae m];by_cases p:c=62
   ·subst p;rw[af rfl,<-ih l g,k];have f:rp2 (62 :: rp1 l)=62 :: rp2 (rp1 l):=k2 [62] _ (by decide);have e3:∀x,rp3 (62 :: x)=62 :: rp3 x:=fun x=>k3 [62] _ (by decide)
    have e4:∀x,rp4 (62 :: x)=[38,103,116,59]++rp4 x:=fun x=>rR [62] _ x (by simp) (by simp)
    rw[f,e3,e4,k5 _ _ (by decide)]
   rw[ae p];by_cases q:c=34
   ·subst q;rw[af rfl,<-ih l g,k];have f:rp2 (34 :: rp1 l)=34 :: rp2 (rp1 l):=k2 [34] _ (by decide);have e3:∀x,rp3 (34 :: x)=34 :: rp3 x:=fun x=>k3 [34] _ (by decide)
    have e4:∀x,rp4 (34 :: x)=34 :: rp4 x:=fun x=>k4 [34] _ (by decide)
    have e5:∀x,rp5 (34 :: x)=[38,113,117,111,116,59]++rp5 x:=fun x=>rR [34] _ x (by simp) (by simp)
    rw[f,e3,e4,e5]
   rw[ae q];by_cases j:c=194/\l.head?=some 160
   ·rw[af j];obtain⟨rfl,s⟩:=j;cases l with
    | nil=>cases s
    | cons d l =>
     obtain rfl:d=160:=by simpa using s
     have v:l.length<=n:=by simp at g;omega
     show _=[38,110,98,115,112,59]++dU l;rw[<-ih l v,k];have u:rp1 (160 :: l)=160 :: rp1 l:=sS 38 [] _ (by simp) [160] l (by decide);have f:∀x,rp2 (194 :: 160 :: x)=[38,110,98,115,112,59]++rp2 x:=fun x=>rR [194,160] _ x (by simp) (by simp)
     rw[u,f,k3 _ _ (by decide),k4 _ _ (by decide),k5 _ _ (by decide)]
   ·rw[ae j,aO3 c l i m p q ?_,ih l g];by_cases r:c=194
    ·exact .inr (aMJ l fun h=>j ⟨r,h⟩)
    ·exact .inl r
open Go.RowKit
theorem aN4 (s:I):gP s=⟨(dU s.data.toList).toArray⟩:=by
 refine fF ?_;show rp5 (rp4 (rp3 (rp2 (rp1 s.data.toList))))=_;rw[aQN _ _ (ah _)]
structure dO (s:U) (k:Nat) (bs:U):Prop where
 le:k<=s.length
 sz:bs.length<=6*k
 o:dU s=bs++dU (s.drop k)
theorem dO.start (s:U):dO s 0 []:=⟨bb _,ah _,rfl⟩
theorem dO.put {s:U}{k:Nat}{b:U}(h:dO s k b)(c:k<s.length)(o:UInt8)(t:U)(e:s[k]=o)(g:t.length<=6)
  (d:∀l,dU (o :: l)=t++dU l):dO s (k+1) (b++t):=by
 have f:=h.sz;refine⟨c,by rw[ax];omega,?_⟩;rw[h.o,dt c,e,d,cv]
theorem aP5 (l:U):dU (38 :: l)=[38,97,109,112,59]++dU l:=by
 conv=>lhs;unfold dU
 rfl
theorem dO.amp {s:U}{k:Nat}{b:U}(h:dO s k b)(d:k<s.length)(c:s[k]=38):dO s (k+1) (b++[38,97,109,112,59]):=h.put d 38 [38,97,109,112,59] c (by decide) aP5
theorem aP6 (l:U):dU (60 :: l)=[38,108,116,59]++dU l:=by
 conv=>lhs;unfold dU
 rfl
theorem dO.lt {s:U}{k:Nat}{b:U}(h:dO s k b)(d:k<s.length)(c:s[k]=60):dO s (k+1) (b++[38,108,116,59]):=h.put d 60 [38,108,116,59] c (by decide) aP6
theorem aP7 (l:U):dU (62 :: l)=[38,103,116,59]++dU l:=by
 conv=>lhs;unfold dU
 rfl
theorem dO.gt {s:U}{k:Nat}{b:U}(h:dO s k b)(d:k<s.length)(c:s[k]=62):dO s (k+1) (b++[38,103,116,59]):=h.put d 62 [38,103,116,59] c (by decide) aP7
theorem aP4 (l:U):dU (34 :: l)=[38,113,117,111,116,59]++dU l:=by
 conv=>lhs;unfold dU
 rfl
theorem dO.quot {s:U}{k:Nat}{b:U}(h:dO s k b)(d:k<s.length)(c:s[k]=34):dO s (k+1) (b++[38,113,117,111,116,59]):=h.put d 34 [38,113,117,111,116,59] c (by decide) aP4
theorem dO.nbsp {s:U}{k:Nat}{c:U}(h:dO s k c)(d:[194,160].isPrefixOf (s.drop k)=true):dO s (k+2) (c++[38,110,98,115,112,59]):=by
 have g:=h.sz;rw[pj]at d;obtain⟨t,b⟩:=d;have f:k+2<=s.length:=by{have:=az List.length b;simp only[ax,bv,db,bm]at this;omega};have e:s.drop (k+2)=t:=by{rw[<-i5,<-b];rfl};refine⟨f,by rw[ax];simp;omega,?_⟩;rw[h.o,e,<-b,cv];congr 1;show dU (194 :: 160 :: t)=_;conv=>lhs;unfold dU
 rfl
theorem dO.rest {s:U}{k:Nat}{f:U}(h:dO s k f)(e:k<s.length)(i:s[k]≠38)(j:s[k]≠60)(l:s[k]≠62)(m:s[k]≠34)(c:[194,160].isPrefixOf (s.drop k)=false):dO s (k+1) (f++[s[k]]):=by
 have n:=h.sz;refine⟨e,by rw[ax];simp;omega,?_⟩;rw[dt e]at c;rw[h.o,dt e,cv];congr 1;conv=>lhs;unfold dU
 rw[ae i,ae j,ae l,ae m,ae ?_];{rfl}
 ·rintro⟨g,b⟩;rw[g]at c
  cases hd:s.drop (k+1)with
  | nil=>rw[hd]at b;cases b
  | cons d t =>
   rw[hd]at b c
   obtain rfl:d=160:=by simpa using b
   simp at c
theorem dO.done {s:U}{k:Nat}{bs:U}(h:dO s k bs)(b:s.length<=k):dU s=bs:=by
 rw[h.o,dy b];unfold dU;rw[eh]
theorem aEW (s:I)(k:Nat):(s.extract k s.size).data.toList=s.data.toList.drop k:=by
 rw[ByteArray.data_extract,Array.toList_extract];simp[List.extract];have:s.size=s.data.toList.length:=rfl;rw[this];exact fi (by simp)
theorem aHz (s t:I)(w:H):Y 154 #[.string s,.string t] w fun e w'=>e=.returned (.bool (t.data.toList.isPrefixOf s.data.toList))/\w=w':=by
 rcases ak s.size t.size with h|h;{have c:t.data.toList.isPrefixOf s.data.toList=false:=by{rw[<-Bool.not_eq_true,pj];intro d;have:=d.length_le;have f:t.data.toList.length=t.size:=rfl;have g:s.data.toList.length=s.size:=rfl;omega};rw[c];clear c;go_enter Tryz.func154,Tryz.ntmps154;go_wp2;go_ret;exact⟨rfl,rfl⟩};{have hx:((s.extract 0 t.size).toList==t.toList)=t.data.toList.isPrefixOf s.data.toList:=by{rw[iG,toList_data,ay,cn,pj,uk];unfold fG;rw[fq];exact eq_comm};generalize t.data.toList.isPrefixOf s.data.toList=b at *;go_enter Tryz.func154,Tryz.ntmps154;go_wp2;go_ret;exact⟨rfl,rfl⟩}
section
variable {ops:Array Oper} {rest:List Oper} {o:Oper} {a:Act} {Q:Exit->Act->H->Prop}
theorem fY {w:H}(j:o.guard=none)(sl x:Operand)(l:o.op=.call { callee:=.builtin .append,args:=#[sl,x],argTypes:=#[35,9] })
  (i:TypeInfo) (hi:Tryz.prog.info? 5=some i) (q:i.zero=some (.int .u8 0)) (p:i.size=1) (g:i.bytes=1)
  {B:Nat} {d:H} (v:Value) (b L:U) (n:a.eval sl=v) (c:aF B 5 1 v b.length (b.map dE) d w)
  (s:I) (hx:a.eval x=.string s) (e:s.data.toList=L) (r:b.length+L.length<=140737488355328)
  (h:∀v' w',G (aF B 5 1 v' (b++L).length ((b++L).map dE) d w')->wpList Tryz.prog ops Q rest (a.put o.dst v') w'):wpList Tryz.prog ops Q (o :: rest) a w:=by
 have k:s.size=L.length:=by{rw[<-e];rfl};refine Lib.wpList_append_own_string _ j sl x 35 9 l B 5 i Tryz.underlying35 Tryz.underlying9 hi q p g v b.length _ n c.own s hx (by unfold maxLen;omega) (by omega) c.base ?_;intro v' w' m f _;refine h v' w' (aF.cast ⟨m,c.bel.grown f c.base c.lo,bg c.base f.size⟩ (by rw[ax,k]) ?_);rw[kt,<-e];rfl
end
theorem aME (s:I)(X:s.size<=20000000)(w:H):Y 96 #[.string s,.bool true] w (O (.string (gP s)) w):=by
 obtain⟨u,hi,q,r,t⟩:=cx Tryz.info5;rw[aN4];go_enter Tryz.func96,Tryz.ntmps96;go_wp2;go_loopw [5,6] (fun o i wx=>∃(k:Nat) (b:U),i=.int .i64 k/\G (dO s.data.toList k b)/\G (aF w.heap.size 5 1 o b.length (b.map dE) w wx)) (fun _ i _=>s.size-(intOf i).toNat);case atStart=>exact⟨0,[],rfl,Z (dO.start _),Z (aF.nil w 5 1)⟩
 case round =>
  obtain⟨k,b,rfl,h,j⟩:=hrel;have V:k<=s.size:=h.o.le;have aa:=h.o.sz;rcases ak k s.size with p|K
  ·have S:=s[k].toNat_lt;have y:=Z (h.o.amp p);have A:=Z (h.o.lt p);have z:=Z (h.o.gt p);have B:=Z (h.o.quot p);have F:=Z h.o.nbsp;have C:=Z (h.o.rest p);have e:s.data.toList[k]'p=s[k]:=rfl;rw[e]at y A z B C;clear e;by_cases f:s[k]=38;{have HF:=Z (y.o f);have L:((s[k].toNat:Int)==38)=true:=by{rw[f];rfl};clear f;go_wp2_with (at_builtin;refine fY (by rfl) _ _ (by rfl) u hi q r t _ b [38,97,109,112,59] rfl j.o _ rfl rfl (by simp;omega) ?_);intro v' w' d;go_wp2;go_roundw;(case rel=>exact⟨k+1,_,by go_num,HF,Z (d.o.cast (by simp) (by simp))⟩);case measure=>simp[intOf];omega};have L:((s[k].toNat:Int)==38)=false:=by{rw[ai];exact fun e=>f (de.1 (by show _=38;omega))};by_cases g:s[k]=60;{have HF:=Z (A.o g);have M:((s[k].toNat:Int)==60)=true:=by{rw[g];rfl};clear f g;go_wp2_with (at_builtin;refine fY (by rfl) _ _ (by rfl) u hi q r t _ b [38,108,116,59] rfl j.o _ rfl rfl (by simp;omega) ?_);intro v' w' d;go_wp2;go_roundw;(case rel=>exact⟨k+1,_,by go_num,HF,Z (d.o.cast (by simp) (by simp))⟩);case measure=>simp[intOf];omega};have M:((s[k].toNat:Int)==60)=false:=by{rw[ai];exact fun e=>g (de.1 (by show _=60;omega))};by_cases l:s[k]=62;{have HF:=Z (z.o l);have N:((s[k].toNat:Int)==62)=true:=by{rw[l];rfl};clear f g l;go_wp2_with (at_builtin;refine fY (by rfl) _ _ (by rfl) u hi q r t _ b [38,103,116,59] rfl j.o _ rfl rfl (by simp;omega) ?_);intro v' w' d;go_wp2;go_roundw;(case rel=>exact⟨k+1,_,by go_num,HF,Z (d.o.cast (by simp) (by simp))⟩);case measure=>simp[intOf];omega};have N:((s[k].toNat:Int)==62)=false:=by{rw[ai];exact fun e=>l (de.1 (by show _=62;omega))};by_cases m:s[k]=34;{have HF:=Z (B.o m);have R:((s[k].toNat:Int)==34)=true:=by{rw[m];rfl};clear f g l m;go_wp2_with (at_builtin;refine fY (by rfl) _ _ (by rfl) u hi q r t _ b [38,113,117,111,116,59] rfl j.o _ rfl rfl (by simp;omega) ?_);intro v' w' d;go_wp2;go_roundw;(case rel=>exact⟨k+1,_,by go_num,HF,Z (d.o.cast (by simp) (by simp))⟩);case measure=>simp[intOf];omega};have R:((s[k].toNat:Int)==34)=false:=by{rw[ai];exact fun e=>m (de.1 (by show _=34;omega))};have n:∀W,Y 154 #[.string (s.extract k s.size),.string ⟨#[194,160]⟩] W fun e w'=>e=.returned (.bool ([194,160].isPrefixOf (s.data.toList.drop k)))/\W=w':=fun W=>by{have:=aHz (s.extract k s.size) ⟨#[194,160]⟩ W;rw[aEW]at this;exact this}
   cases hp:[194,160].isPrefixOf (s.data.toList.drop k)with
   | true =>
    have HF:=Z (F.o hp);rw[hp]at n
    have v:=Z n;clear f g l m hp n;go_wp2_with fail
    refine(v.o _).mono ?_;rintro x w' ⟨rfl,rfl⟩;go_wp2_with (at_builtin;refine fY (by rfl) _ _ (by rfl) u hi q r t _ b [38,110,98,115,112,59] rfl j.o _ rfl rfl (by simp;omega) ?_)
    intro v' w' d;go_wp2
    go_roundw
    case rel=>exact⟨k+1+1,_,by go_num,HF,Z (d.o.cast (by simp) (by simp))⟩
    case measure=>simp[intOf];omega
   | false =>
    have HF:=Z (C.o f g l m hp);rw[hp]at n
    have v:=Z n;clear f g l m hp n;go_wp2_with fail
    refine(v.o _).mono ?_;rintro x w' ⟨rfl,rfl⟩;go_wp2_with (at_builtin;refine aU (by rfl) _ _ 35 (by rfl) 5 u (.int .u8 0) 1 1 Tryz.underlying35 hi q r t rfl (by decide) _ _ _ rfl j.o #[.int .u8 s[k].toNat] rfl rfl rfl rfl (by omega) (by omega) ?_)
    intro v' w' d _;go_wp2
    go_roundw
    case rel=>exact⟨k+1,b++[s[k]],by go_num,HF,Z (d.o.cast (by simp) (by simp[dE]))⟩
    case measure=>simp[intOf];omega
  {have J:=Z (h.o.done K);obtain⟨a,c,rfl,hac,_⟩:=j.o.slice;have D:=j.o.isB rfl;have T:=qK (P:=Tryz.prog) wr 35 5 9 Tryz.underlying35 Tryz.underlying5 Tryz.underlying9 a b b.length c rfl D;have E:=Z j.o.bel;clear D;go_wp2;go_ret;exact⟨by rw[J.o];rfl,E.o⟩}
open Go.RowKit
def mkB (l:U):I:=⟨l.toArray⟩
theorem aQx (a b:U):mkB a=mkB b↔a=b:=⟨fun h=>by simpa [mkB]using h,fun h=>by rw[h]⟩
theorem aQn (b:List (U))(x:U):Lib.containsS (b.map mkB) (mkB x)=b.contains x:=by
 rw[ay,il,pp];simp only[g9,aQx,exists_eq_right]
theorem aCh (s z:I)(t:s.size<=1000000000)(v:z.size<=1000)(b:Bool)(c:eY ((aAl z.data.toList).map mkB) (bN s.data.toList)=b)(w:H):Y 93 #[.string s,.string z] w (qC (iO s) b w):=by
 have q:=yJ s.data.toList;have r:s.data.toList.length=s.size:=rfl;have l:(iO s).size<=140737488355328:=by{unfold iO;rw[jU];omega};have K:=Z (fun w=>aKu s t w);have S:=fun w=>aGF (iO s) l w;unfold aGT at S;unfold eY at c;have hd:(iO s).data.toList=bN s.data.toList:=rfl;have j:(⟨(bN s.data.toList).toArray⟩:I)=iO s:=rfl;rw[j]at K;rw[hd]at S;clear q r l hd j;generalize iO s=L at *;generalize bN s.data.toList=X at *;cases hsc:gL X with|none=>{rw[hsc]at c;rw[gV hsc]at S;obtain rfl:true=b:=c;have g:=Z S;clear S hsc;go_enter Tryz.func93,Tryz.ntmps93;go_wp2_with fail;refine(K.o _).mono ?_;rintro x n ⟨rfl,d⟩;have f:=Z d;clear d;go_wp2_with fail;refine(g.o _).mono ?_;rintro x p ⟨rfl,e⟩;have h:=Z (f.o.trans (e.mono f.o.size));clear e;go_wp2;go_ret2;exact⟨rfl,h.o⟩}|some x=>{rw[hsc]at c;rw[oV hsc]at S;have i:inB (mkB x).data.toList z.data.toList=b:=by{rw[<-c];exact(aQn _ x).symm};have m:=Z (fun w=>oI (mkB x) z b (Z i) (by omega) w);have g:=Z S;have k:(⟨x.toArray⟩:I)=mkB x:=rfl;rw[k]at g;clear S hsc c i k;generalize mkB x=y at *;go_enter Tryz.func93,Tryz.ntmps93;go_wp2_with fail;refine(K.o _).mono ?_;rintro x n ⟨rfl,d⟩;have f:=Z d;clear d;go_wp2_with fail;refine(g.o _).mono ?_;rintro x p ⟨rfl,e⟩;have h:=Z (f.o.trans (e.mono f.o.size));clear e;go_wp2_with fail;refine(m.o _).mono ?_;rintro x u ⟨rfl,rfl⟩;go_wp2;go_ret2;exact⟨rfl,h.o⟩}
theorem aBR (n a b:I)(z:U)(h:aAl z=[a.data.toList,b.data.toList]):inB n.data.toList z=decide (n=a\/n=b):=by
 unfold inB;rw[h,ay,pp,bi];simp only[b9,iu,gi];exact⟨fun x=>x.imp fF fF,fun x=>x.imp (fun e=>by rw[e]) (fun e=>by rw[e])⟩
theorem aE8 (n a b c:I)(z:U)(h:aAl z=[a.data.toList,b.data.toList,c.data.toList]):inB n.data.toList z=decide (n=a\/n=b\/n=c):=by
 unfold inB;rw[h,ay,pp,bi];simp only[b9,iu,gi];exact⟨fun x=>x.imp fF (fun y=>y.imp fF fF),fun x=>x.imp (fun e=>by rw[e]) (fun y=>y.imp (fun e=>by rw[e]) (fun e=>by rw[e]))⟩
theorem lB {n c:I}(l:U)(h:c.data.toList=l):(n.toList==l)=decide (n=c):=by
 rw[ay,cn,bi,toList_data,<-h];exact⟨fF,fun e=>by rw[e]⟩
theorem aDq {n:U}{q:Nat}(h:aN n=q)(d:0<q):(n,q)∈fD:=by
 unfold aN at h;cases hf:fD.find? fun p=>p.1==n with|none=>{rw[hf]at h;simp at h;omega}|some p=>{rw[hf]at h;have b:=List.find?_some hf;have c:=List.mem_of_find?_eq_some hf;have e:p=(n,q):=by{cases p;simp at b h;rw[b,h]};rw[<-e];exact c}
theorem aOo:∀p∈fD,p.2=13->p.1=sTd.data.toList\/p.1=sTh.data.toList:=by decide +kernel
theorem aJM (e:I):aN e.data.toList=13↔e=sTd\/e=sTh:=by
 constructor;{intro h;exact(aOo _ (aDq h (by omega)) rfl).imp fF fF};{rintro(rfl|rfl)<;>decide +kernel}
def aRa (k:FK)(v s:I)(ok:Bool):Prop:=match k with
 | .text=>G (∀W,Y 33 #[.string v] W (zW s W))/\ok=true
 | .lang=>v=s/\G (ok=true↔nA v)
 | .dir=>G (∀W,Y 74 #[.string v] W (zW s W))/\G (∀W,Y 69 #[.string s,.string ⟨#[97,117,116,111,32,108,116,114,32,114,116,108]⟩] W (sE ok W))
 | .linkA=>G (∀W,Y 93 #[.string v,.string ⟨#[104,116,116,112,32,104,116,116,112,115,32,109,97,105,108,116,111]⟩] W (qC s ok W))
 | .linkI=>G (∀W,Y 93 #[.string v,.string ⟨#[104,116,116,112,32,104,116,116,112,115]⟩] W (qC s ok W))
 | .whole lo hi=>v=s/\∃x:Int,G (∀W,Y 94 #[.string v,.int .i64 lo,.int .i64 hi] W (fun e w'=>e=.returned (.tuple #[.int .i64 x,.bool ok])/\W=w'))
 | .fix=>G (∀W,aA W->Y 95 #[.string v] W (qC s ok W))
 | .none=>v=s/\ok=false
theorem aMG (e:H)(f:aA e)(k:FK)(v:I)(l:v.size<=1048576):∃s ok,qS k v (if ok=true then some s else none)/\aRa k v s ok/\s.size<=4000000:=by
 have m:=aCz v;have j:=aBX v;cases k with
 | text=>exact⟨dK v,true,rfl,⟨Z (fun W=>yX v (by omega) W),rfl⟩,by omega⟩
 | lang =>
  by_cases h:nA v
  ·exact⟨v,true,⟨h,rfl⟩,⟨rfl,Z ⟨fun _=>h,fun _=>rfl⟩⟩,by omega⟩
  ·exact⟨v,false,h,⟨rfl,Z ⟨fun x=>(by cases x),fun x=>absurd x h⟩⟩,by omega⟩
 | dir =>
  have g:=fun W=>oI (cY v) ⟨#[97,117,116,111,32,108,116,114,32,114,116,108]⟩ (decide (cY v=tU\/cY v=zB\/cY v=zD)) (Z (aE8 _ _ _ _ _ (by decide))) (by decide) W
  have i:(cY v).size<=4000000:=by
   unfold cY bO;rw[jU,dc];have:v.data.toList.length=v.size:=rfl;omega
  refine⟨cY v,decide (cY v=tU\/cY v=zB\/cY v=zD),?_,⟨Z (fun W=>aCi v (by omega) W),Z g⟩,i⟩;by_cases h:cY v=tU\/cY v=zB\/cY v=zD
  ·rw[af (bt h)];exact⟨h,rfl⟩
  ·rw[ae (by rw[bi];exact h)];exact h
 | linkA =>
  have h:=fun W=>aCh v ⟨#[104,116,116,112,32,104,116,116,112,115,32,109,97,105,108,116,111]⟩ (by omega) (by decide) (eY pZ (bN v.data.toList)) rfl W
  refine⟨iO v,eY pZ (bN v.data.toList),?_,Z h,by omega⟩;cases hc:eY pZ (bN v.data.toList)with
  | true=>exact⟨hc,rfl⟩
  | false=>exact hc
 | linkI =>
  have h:=fun W=>aCh v ⟨#[104,116,116,112,32,104,116,116,112,115]⟩ (by omega) (by decide) (eY uQ (bN v.data.toList)) rfl W
  refine⟨iO v,eY uQ (bN v.data.toList),?_,Z h,by omega⟩;cases hc:eY uQ (bN v.data.toList)with
  | true=>exact⟨hc,rfl⟩
  | false=>exact hc
 | whole lo hi =>
  obtain⟨x,b,hx⟩:=aF8 v lo hi (by unfold maxLen;omega);refine⟨v,b,?_,⟨rfl,x,Z hx.two⟩,by omega⟩;cases b with
  | true=>exact⟨⟨x,hx⟩,rfl⟩
  | false=>exact⟨x,hx⟩
 | fix =>
  rcases aMF e f v (by unfold maxLen;omega)with⟨t,c,d⟩|⟨c,d⟩
  ·exact⟨t,true,c,Z d,by have:=c.sz;omega⟩
  ·exact⟨⟨#[]⟩,false,c,Z d,by decide⟩
 | none=>exact⟨v,false,trivial,⟨rfl,rfl⟩,by omega⟩
theorem aJx (e:I):aZ e lQ=.text:=by simp +decide [aZ]
theorem aOb (e:I):aZ e yZ=if e=fA then .text else .none:=by simp +decide [aZ,fQ]
theorem aLV (e:I):aZ e pW=.lang:=by simp +decide [aZ]
theorem aOc (e:I):aZ e wO=.dir:=by simp +decide [aZ]
theorem aLU (e:I):aZ e tV=if e=sA then .linkA else .none:=by simp +decide [aZ,fQ]
theorem aOg (e:I):aZ e zE=if e=fA then .linkI else .none:=by simp +decide [aZ,fQ]
theorem aHQ (e:I):aZ e mF=if e=fA then .whole 0 9999 else .none:=by simp +decide [aZ,fQ]
theorem aJz (e:I):aZ e oT=if e=fA then .whole 0 9999 else .none:=by simp +decide [aZ,fQ]
theorem aJw (e:I):aZ e oS=if e=sOl then .whole 0 999999 else .none:=by simp +decide [aZ,fQ]
theorem aGi (e:I):aZ e gT=if e=sTd\/e=sTh then .whole 1 1000 else .none:=by simp +decide [aZ,fQ]
theorem aGj (e:I):aZ e gU=if e=sTd\/e=sTh then .whole 1 1000 else .none:=by simp +decide [aZ,fQ]
theorem aOe (e:I):aZ e sX=if e=dM\/e=fO then .fix else .none:=by simp +decide [aZ,fQ]
theorem aJy (e:I):aZ e lR=if e=dM\/e=fO then .fix else .none:=by simp +decide [aZ,fQ]
theorem aLT (e:I):aZ e wP=if e=dM then .fix else .none:=by simp +decide [aZ,fQ]
theorem aOd (e:I):aZ e aBd=if e=dM then .fix else .none:=by simp +decide [aZ,fQ]
theorem aOf (e:I):aZ e aBe=if e=dM then .fix else .none:=by simp +decide [aZ,fQ]
theorem aKC (L:H)(D:aA L)(e n v:I)(J:v.size<=1048576)(R:n.size<=1048576)(_he:e.size<=1048576):∃o,iM e n v o/\∀w,aA w ->
  Y 44 #[.string e,.string n,.string v] w (O (kK o) w):=by
 by_cases B:aN e.data.toList<2\/aN e.data.toList=14;{refine⟨none,.inl B,fun w T=>?_⟩;have C:=Z (fun W=>iV e W);have hd:aN e.data.toList<2\/(¬aN e.data.toList<2/\((aN e.data.toList:Nat):Int)=14):=by{omega};clear B T;generalize aN e.data.toList=k at *;rcases hd with h|⟨h,E⟩;{have N:decide ((k:Int)<2)=true:=bt (by omega);go_enter Tryz.func44,Tryz.ntmps44;go_wp2_with fail;refine(C.o _).mono ?_;rintro x M ⟨rfl,u⟩;have A:=Z u;clear u;go_wp2;go_ret2;exact⟨rfl,A.o⟩};{have N:decide ((k:Int)<2)=false:=bo (by omega);have S:((k:Int)==14)=true:=by{rw[cn];exact E};clear h E;go_enter Tryz.func44,Tryz.ntmps44;go_wp2_with fail;refine(C.o _).mono ?_;rintro x M ⟨rfl,u⟩;have A:=Z u;clear u;go_wp2;go_ret2;exact⟨rfl,A.o⟩}}
 ·obtain⟨s,ok,z,b,P⟩:=aMG L D (aZ e n) v J;obtain⟨o,F,K⟩:∃o,((ok=false/\o=none)\/(ok=true/\120<(gP s).size/\o=none)\/(ok=true/\(gP s).size<=120/\o=some s))/\iM e n v o:=by{cases ok with|false=>exact⟨none,.inl ⟨rfl,rfl⟩,.inr (.inl z)⟩|true=>{rcases ak 120 (gP s).size with h|h;{exact⟨none,.inr (.inl ⟨rfl,h,rfl⟩),.inr (.inr ⟨s,z,h⟩)⟩};{exact⟨some s,.inr (.inr ⟨rfl,h,rfl⟩),B,z,h⟩}}}
  refine⟨o,K,fun w T=>?_⟩;clear K z D;refine aGG e n v s J ok o (aN e.data.toList) (by omega) (by rw[ai];omega) w (Z T) (Z (fun W=>iV e W))
   (decide (n=lQ)) (decide (n=yZ)) (decide (n=pW)) (decide (n=wO)) (decide (n=tV)) (decide (n=zE)) (decide (n=mF\/n=oT)) (decide (n=oS)) (decide (n=gT\/n=gU)) (decide (n=sX\/n=lR)) (decide (n=wP\/n=aBd\/n=aBe)) (decide (e=fA)) (decide (e=sA)) (decide (e=sOl)) (decide (e=sTd\/e=sTh)) (decide (e=dM\/e=fO)) (decide (e=dM))
   (lB _ rfl) (lB _ rfl) (lB _ rfl) (lB _ rfl) (lB _ rfl) (lB _ rfl) (Z (fun W=>oI n ⟨#[104,101,105,103,104,116,32,119,105,100,116,104]⟩ _ (Z (aBR _ _ _ _ (by decide))) (by decide) W)) (lB _ rfl) (Z (fun W=>oI n ⟨#[99,111,108,115,112,97,110,32,114,111,119,115,112,97,110]⟩ _ (Z (aBR _ _ _ _ (by decide))) (by decide) W)) (Z (fun W=>oI n ⟨#[109,97,120,32,118,97,108,117,101]⟩ _ (Z (aBR _ _ _ _ (by decide))) (by decide) W)) (Z (fun W=>oI n ⟨#[104,105,103,104,32,108,111,119,32,109,105,110]⟩ _ (Z (aE8 _ _ _ _ _ (by decide))) (by decide) W)) (lB _ rfl) (lB _ rfl) (lB _ rfl) (by rw[ay,cn,bi,<-aJM];omega) (Z (fun W=>oI e ⟨#[109,101,116,101,114,32,112,114,111,103,114,101,115,115]⟩ _ (Z (aBR _ _ _ _ (by decide))) (by decide) W)) (lB _ rfl)
   (Z (fun _ W=>aME s (by omega) W)) F ?_
  clear F T;simp only[bi,gq];by_cases f:n=lQ;{rw[f,aJx]at b;exact .inl ⟨f,b⟩};by_cases c:n=yZ
  ·have m:aZ e n=if e=fA then .text else .none:=by rw[c];exact aOb e
   rw[m]at b;by_cases y:e=fA;{rw[af y]at b;exact .inr (.inl ⟨f,c,y,b⟩)};{rw[ae y]at b;exact .inr (.inr (.inl ⟨f,c,y,(by subst c<;>decide),(by subst c<;>decide),(by subst c<;>decide),(by subst c<;>decide),(by subst c<;>decide),(by subst c<;>decide),(by subst c<;>decide),(by subst c<;>decide),(by subst c<;>decide),b⟩))}
  by_cases i:n=pW;{rw[i,aLV]at b;exact .inr (.inr (.inr (.inl ⟨f,c,i,b⟩)))};by_cases j:n=wO;{rw[j,aOc]at b;exact .inr (.inr (.inr (.inr (.inl ⟨f,c,i,j,b⟩))))};by_cases d:n=tV
  ·have m:aZ e n=if e=sA then .linkA else .none:=by rw[d];exact aLU e
   rw[m]at b;by_cases y:e=sA;{rw[af y]at b;exact .inr (.inr (.inr (.inr (.inr (.inl ⟨f,c,i,j,d,y,b⟩)))))};{rw[ae y]at b;exact .inr (.inr (.inr (.inr (.inr (.inr (.inl ⟨f,c,i,j,d,y,(by subst d<;>decide),(by subst d<;>decide),(by subst d<;>decide),(by subst d<;>decide),(by subst d<;>decide),(by subst d<;>decide),b⟩))))))}
  by_cases g:n=zE
  ·have m:aZ e n=if e=fA then .linkI else .none:=by rw[g];exact aOg e
   rw[m]at b;by_cases y:e=fA;{rw[af y]at b;exact .inr (.inr (.inr (.inr (.inr (.inr (.inr (.inl ⟨f,c,i,j,d,g,y,b⟩)))))))};{rw[ae y]at b;exact .inr (.inr (.inr (.inr (.inr (.inr (.inr (.inr (.inl ⟨f,c,i,j,d,g,y,(by subst g<;>decide),(by subst g<;>decide),(by subst g<;>decide),(by subst g<;>decide),(by subst g<;>decide),b⟩))))))))}
  by_cases l:n=mF\/n=oT
  ·have m:aZ e n=if e=fA then .whole 0 9999 else .none:=by rcases l with rfl|rfl<;>first|exact aHQ e|exact aJz e
   rw[m]at b;by_cases y:e=fA;{rw[af y]at b;exact .inr (.inr (.inr (.inr (.inr (.inr (.inr (.inr (.inr (.inl ⟨f,c,i,j,d,g,l,y,b⟩)))))))))};{rw[ae y]at b;exact .inr (.inr (.inr (.inr (.inr (.inr (.inr (.inr (.inr (.inr (.inl ⟨f,c,i,j,d,g,l,y,(by rcases l with rfl|rfl<;>decide),(by rcases l with rfl|rfl<;>decide),(by rcases l with rfl|rfl<;>decide),(by rcases l with rfl|rfl<;>decide),b⟩))))))))))}
  by_cases p:n=oS
  ·have m:aZ e n=if e=sOl then .whole 0 999999 else .none:=by rw[p];exact aJw e
   rw[m]at b;by_cases y:e=sOl;{rw[af y]at b;exact .inr (.inr (.inr (.inr (.inr (.inr (.inr (.inr (.inr (.inr (.inr (.inl ⟨f,c,i,j,d,g,l,p,y,b⟩)))))))))))};{rw[ae y]at b;exact .inr (.inr (.inr (.inr (.inr (.inr (.inr (.inr (.inr (.inr (.inr (.inr (.inl ⟨f,c,i,j,d,g,l,p,y,(by subst p<;>decide),(by subst p<;>decide),(by subst p<;>decide),b⟩))))))))))))}
  by_cases q:n=gT\/n=gU
  ·have m:aZ e n=if e=sTd\/e=sTh then .whole 1 1000 else .none:=by rcases q with rfl|rfl<;>first|exact aGi e|exact aGj e
   rw[m]at b;by_cases y:e=sTd\/e=sTh;{rw[af y]at b;exact .inr (.inr (.inr (.inr (.inr (.inr (.inr (.inr (.inr (.inr (.inr (.inr (.inr (.inl ⟨f,c,i,j,d,g,l,p,q,y,b⟩)))))))))))))};{rw[ae y]at b;exact .inr (.inr (.inr (.inr (.inr (.inr (.inr (.inr (.inr (.inr (.inr (.inr (.inr (.inr (.inl ⟨f,c,i,j,d,g,l,p,q,y,(by rcases q with rfl|rfl<;>decide),(by rcases q with rfl|rfl<;>decide),b⟩))))))))))))))}
  by_cases r:n=sX\/n=lR
  ·have m:aZ e n=if e=dM\/e=fO then .fix else .none:=by rcases r with rfl|rfl<;>first|exact aOe e|exact aJy e
   rw[m]at b;by_cases y:e=dM\/e=fO;{rw[af y]at b;exact .inr (.inr (.inr (.inr (.inr (.inr (.inr (.inr (.inr (.inr (.inr (.inr (.inr (.inr (.inr (.inl ⟨f,c,i,j,d,g,l,p,q,r,y,b⟩)))))))))))))))};{rw[ae y]at b;exact .inr (.inr (.inr (.inr (.inr (.inr (.inr (.inr (.inr (.inr (.inr (.inr (.inr (.inr (.inr (.inr (.inl ⟨f,c,i,j,d,g,l,p,q,r,y,(by rcases r with rfl|rfl<;>decide),b⟩))))))))))))))))}
  by_cases t:n=wP\/n=aBd\/n=aBe
  ·have m:aZ e n=if e=dM then .fix else .none:=by rcases t with rfl|rfl|rfl<;>first|exact aLT e|exact aOd e|exact aOf e
   rw[m]at b;by_cases y:e=dM;{rw[af y]at b;exact .inr (.inr (.inr (.inr (.inr (.inr (.inr (.inr (.inr (.inr (.inr (.inr (.inr (.inr (.inr (.inr (.inr (.inl ⟨f,c,i,j,d,g,l,p,q,r,t,y,b⟩)))))))))))))))))};{rw[ae y]at b;exact .inr (.inr (.inr (.inr (.inr (.inr (.inr (.inr (.inr (.inr (.inr (.inr (.inr (.inr (.inr (.inr (.inr (.inr (.inl ⟨f,c,i,j,d,g,l,p,q,r,t,y,b⟩))))))))))))))))))}
  have m:aZ e n=.none:=by{simp only[gx]at l q r t;simp[aZ,fQ,f,c,i,j,d,g,l,p,q,r,t]};rw[m]at b;exact .inr (.inr (.inr (.inr (.inr (.inr (.inr (.inr (.inr (.inr (.inr (.inr (.inr (.inr (.inr (.inr (.inr (.inr (.inr (⟨f,c,i,j,d,g,l,p,q,r,t,b⟩)))))))))))))))))))
theorem aIk (b:H)(c:aA b)(e n v:I)(o:Option I)(d:v.size<=1048576)(j:n.size<=1048576)(i:e.size<=1048576)(h:iM e n v o)(w:H)(T:aA w) :
  Y 44 #[.string e,.string n,.string v] w (O (kK o) w):=by
 obtain⟨k,f,g⟩:=aKC b c e n v d j i;obtain rfl:=aDO b c (by omega) (by omega) d f h;exact g w T
