/-
Numerals as texts of digits, a point, an exponent: what numeral and readFloat make of them. No program in sight.
-/
import Derived.Test.YtcfgbdhpcboikaaGreatDoorShortS
namespace Go.Proofs.YtcfgbdhpcboikaaGreatDoor
open Go.Lib (hid)
def lU (v:Nat)(c:UInt8):Nat:=if c=46 then v else v*10+(c.toNat-48)
def eF (l:List UInt8):Nat:=l.foldl lU 0
theorem wD (l:List UInt8)(c:UInt8):eF (l++[c])=lU (eF l) c:=by simp[eF]
theorem aJ4 (l:List UInt8)(h:∀c∈l,cO c=true):(aL l).trunc=false→eF l=(aL l).mant*10^((aL l).nd-(aL l).ndM):=by
  induction l using gS with
  | h0=>intro _;rfl
  | h1 l c ih =>
    have hl:∀x∈l,cO x=true:=fun x hx=>h x (by simp[hx])
    have hc:cO c=true:=h c (by simp);have ih:=ih hl;obtain⟨b1,b2,b3,b4,b5⟩:=uK l hl;rw[cY,wD];generalize aL l=r at *
    unfold dC lU;by_cases c46:c=46
    · rw[if_pos c46,if_pos c46]
      exact ih
    · have hd:aE c=true:=by simpa [cO,c46]using hc
      rw[if_neg c46,if_neg c46];by_cases c48:c=48∧r.nd=0
      · rw[if_pos c48]
        intro ht;have hv:=ih ht;have hM:r.ndM=0:=by omega
        rw[hM]at b3
        have m0:r.mant=0:=by simpa using b3
        rw[m0,Nat.zero_mul]at hv
        show eF l*10+(c.toNat-48)=r.mant*10^(r.nd-r.ndM);rw[hv,m0,c48.1];simp
      · rw[if_neg c48]
        by_cases c19:r.ndM<19
        · rw[if_pos c19]
          intro ht;have hv:=ih ht;show eF l*10+(c.toNat-48)=(r.mant*10+(c.toNat-48))*10^(r.nd+1-(r.ndM+1));rw[hv,show r.nd-r.ndM=0 by omega,show r.nd+1-(r.ndM+1)=0 by omega];simp
        · rw[if_neg c19]
          intro ht;have ht':(r.trunc||c !=48)=false:=ht;rw[Bool.or_eq_false_iff]at ht'
          have hv:=ih ht'.1;have hc48:c=48:=by simpa using ht'.2
          show eF l*10+(c.toNat-48)=r.mant*10^(r.nd+1-r.ndM);rw[hv,hc48,show r.nd+1-r.ndM=r.nd-r.ndM+1 by omega,Nat.pow_succ,Nat.mul_assoc];rfl
theorem mG (l:List UInt8)(h:∀c∈l,cO c=true):l.length≤19→(aL l).trunc=false:=by
  induction l using gS with
  | h0=>intro _;rfl
  | h1 l c ih =>
    intro hlen;rw[List.length_append]at hlen
    simp only[List.length_cons,List.length_nil]at hlen;have hl:∀x∈l,cO x=true:=fun x hx=>h x (by simp[hx])
    have ih:=ih hl (by omega);obtain⟨b1,b2,b3,b4,b5⟩:=uK l hl;rw[cY];generalize aL l=r at *
    unfold dC;split
    · exact ih
    · split
      · exact ih
      · rw[if_pos (by omega)];exact ih
theorem aDy (l:List UInt8)(h:(aL l).trunc=false)(n:Nat):(aL (l++List.replicate n 48)).trunc=false:=by
  induction n with
  | zero=>simpa using h
  | succ n ih =>
    rw[List.replicate_succ',←List.append_assoc,cY];generalize aL (l++List.replicate n 48)=r at *
    unfold dC;rw[if_neg (by decide)];split
    · exact ih
    · split
      · exact ih
      · show(r.trunc||(48:UInt8) !=48)=false
        rw[ih];rfl
theorem tP (l:List UInt8)(h:∀c∈l,aE c=true):(aL l).dot=false:=by
  induction l using gS with
  | h0=>rfl
  | h1 l c ih =>
    have ih:=ih (fun x hx=>h x (by simp[hx]));have hc:=h c (by simp);have n46:c≠46:=by rintro rfl;exact absurd hc (by decide)
    rw[cY];generalize aL l=r at *
    unfold dC;rw[if_neg n46];split
    · exact ih
    · split<;>exact ih
theorem aJ3 (A:List UInt8)(F:List UInt8)(h:∀c∈F,aE c=true):(aL (A++46 :: F)).dot=true∧(aL (A++46 :: F)).dp=(aL (A++46 :: F)).nd-(F.length:Int):=by
  induction F using gS with
  | h0 =>
    rw[cY];unfold dC;rw[if_pos rfl];exact⟨rfl,by simp⟩
  | h1 F c ih =>
    obtain⟨i1,i2⟩:=ih (fun x hx=>h x (by simp[hx]));have hc:=h c (by simp);have n46:c≠46:=by rintro rfl;exact absurd hc (by decide)
    rw[show A++46 :: (F++[c])=(A++46 :: F)++[c] by simp,cY];generalize aL (A++46 :: F)=r at *
    unfold dC;rw[if_neg n46,List.length_append];simp only[List.length_cons,List.length_nil];split
    · exact⟨i1,by show r.dp-1=(r.nd:Int)-_;omega⟩
    · split
      · exact⟨i1,by show r.dp=((r.nd+1:Nat):Int)-_;omega⟩
      · exact⟨i1,by show r.dp=((r.nd+1:Nat):Int)-_;omega⟩
theorem uO (r:RS)(c:UInt8)(h:r.dig=true∨aE c=true):(dC r c).dig=true:=by
  unfold dC;split
  · rename_i h46
    rcases h with h|h
    · exact h
    · rw[h46]at h;exact absurd h (by decide)
  · split
    · rfl
    · split<;>rfl
theorem xZ (l:List UInt8)(c:UInt8)(hc:c∈l)(h:aE c=true):(aL l).dig=true:=by
  induction l using gS with
  | h0=>cases hc
  | h1 l d ih =>
    rw[cY];rcases List.mem_append.1 hc with h1|h1
    · exact uO _ _ (.inl (ih h1))
    · rw[List.mem_singleton.1 h1]at h
      exact uO _ _ (.inr h)
structure uW (s:ByteArray) (neg:Bool) (A F:List UInt8) (dot:Bool) (X:List UInt8) (ev:Int):Prop where
  txt:s.data.toList=(if neg then [45]else [])++(A++(if dot then 46 :: F else []))++X
  digA:∀c∈A,aE c=true
  digF:∀c∈F,aE c=true
  ne:A≠[]
  F0:dot=false→F=[]
  F1:dot=true→F≠[]
  exp:(X=[]∧ev=0)∨∃(sg Dg:List UInt8) (es:Int),X=101 :: sg++Dg∧Dg≠[]∧(∀c∈Dg,aE c=true)∧((sg=[]∧es=1)∨(sg=[43]∧es=1)∨(sg=[45]∧es=-1))∧ev=(bR Dg:Nat)*es
  len:s.size≤40
def bJ (A F:List UInt8)(dot:Bool):List UInt8:=A++(if dot then 46 :: F else [])
theorem vE (l r:List UInt8)(h:∀c∈l,aE c=true)(hr:∀c,r.head?=some c→aE c=false):digs (l++r)=l.length:=by
  induction l with
  | nil =>
    cases r with
    | nil=>rfl
    | cons c r =>
      have:=hr c rfl;simp[digs,this]
  | cons c l ih =>
    have hc:=h c (by simp);have ih:=ih (fun x hx=>h x (by simp[hx]));have e:digs (c :: (l++r))=digs (l++r)+1:=by simp[digs,hc]
    rw[List.cons_append,e,ih,List.length_cons]
theorem aGk {s:ByteArray}{neg dot:Bool}{A F X:List UInt8}{ev:Int}(N:uW s neg A F dot X ev):∀c∈bJ A F dot,cO c=true:=by
  intro c hc;unfold bJ at hc;rcases List.mem_append.1 hc with h|h
  · unfold cO;rw[N.digA c h];rfl
  · cases dot
    · simp at h
    · rw[if_pos rfl]at h
      rcases List.mem_cons.1 h with h|h
      · rw[h];rfl
      · unfold cO;rw[N.digF c h];rfl
theorem aN4 (sg Dg:List UInt8)(h1:Dg≠[])(hd:∀c∈Dg,aE c=true)(hs:sg=[]∨sg=[43]∨sg=[45]):oC (sg++Dg)=true:=by
  obtain⟨c,D,rfl⟩:∃c D,Dg=c :: D:=by
    cases Dg with
    | nil=>exact absurd rfl h1
    | cons c D=>exact⟨c,D,rfl⟩
  have hc:=hd c (by simp);have hall:digs (c :: D)=(c :: D).length:=by
    have:=vE (c :: D) [] hd (fun c h=>by cases h);simpa using this
  unfold oC;have e:(if (sg++c :: D).head?=some 43∨(sg++c :: D).head?=some 45 then (sg++c :: D).drop 1 else sg++c :: D)=c :: D:=by
    rcases hs with rfl|rfl|rfl
    · rw[List.nil_append,if_neg]
      intro h;rcases h with h|h
      · have:c=43:=by simpa using h
        rw[this]at hc
        exact absurd hc (by decide)
      · have:c=45:=by simpa using h
        rw[this]at hc
        exact absurd hc (by decide)
    · simp
    · simp
  simp only[e,hall];simp
theorem aGD (n:Nat)(hn:n≠0)(X:List UInt8)(ev:Int)
    (exp:(X=[]∧ev=0)∨∃(sg Dg:List UInt8) (es:Int),X=101 :: sg++Dg∧Dg≠[]∧(∀c∈Dg,aE c=true)∧((sg=[]∧es=1)∨(sg=[43]∧es=1)∨(sg=[45]∧es=-1))∧ev=(bR Dg:Nat)*es):jS n X=true:=by
  unfold jS;rw[if_neg hn];rcases exp with⟨rfl,_⟩|⟨sg,Dg,es,rfl,h1,h2,h3,_⟩
  · rw[if_pos rfl]
  · rw[if_neg (by simp),if_pos (by simp)]
    refine aN4 sg Dg h1 h2 ?_;rcases h3 with h|h|h
    · exact .inl h.1
    · exact .inr (.inl h.1)
    · exact .inr (.inr h.1)
theorem aD8 {X:List UInt8}{ev:Int}(exp:(X=[]∧ev=0)∨∃(sg Dg:List UInt8) (es:Int),X=101 :: sg++Dg∧Dg≠[]∧(∀c∈Dg,aE c=true)∧((sg=[]∧es=1)∨(sg=[43]∧es=1)∨(sg=[45]∧es=-1))∧ev=(bR Dg:Nat)*es) :
    X=[]∨X.head?=some 101:=by
  rcases exp with⟨rfl,_⟩|⟨sg,Dg,es,rfl,_⟩
  · exact .inl rfl
  · exact .inr rfl
theorem aN6 {s:ByteArray}{neg dot:Bool}{A F X:List UInt8}{ev:Int}(N:uW s neg A F dot X ev):bX s.data.toList=true:=by
  have hlen:=N.len;rw[aS]at hlen
  have hX:=aD8 N.exp;obtain⟨c,A',hA⟩:∃c A',A=c :: A':=by
    cases h:A with
    | nil=>exact absurd h N.ne
    | cons c A'=>exact⟨c,A',rfl⟩
  have hc:=N.digA c (by rw[hA];simp);unfold bX;rw[if_neg (by omega),N.txt];have e:(if ((if neg then [45]else [])++(A++(if dot then 46 :: F else []))++X:List UInt8).head?=some 45 then ((if neg then [45]else [])++(A++(if dot then 46 :: F else []))++X:List UInt8).drop 1 else (if neg then [45]else [])++(A++(if dot then 46 :: F else []))++X)=A++((if dot then 46 :: F else [])++X):=by
    cases neg
    · simp only[Bool.false_eq_true,if_false,List.nil_append]
      rw[if_neg,List.append_assoc];rw[hA];intro h;have:c=45:=by simpa using h
      rw[this]at hc
      exact absurd hc (by decide)
    · simp
  rw[e];unfold rO;cases dot
  · have hF:=N.F0 rfl
    simp only[Bool.false_eq_true,if_false,List.nil_append];have hd:digs (A++X)=A.length:=vE A X N.digA (fun c h=>by
      rcases hX with h0|h0
      · rw[h0]at h;cases h
      · rw[h0]at h;cases h;rfl)
    rw[hd,List.drop_left];have hn46:¬X.head?=some 46:=by
      rcases hX with h0|h0
      · rw[h0];simp
      · rw[h0];decide
    rw[if_neg hn46];exact aGD _ (by rw[hA];simp) X ev N.exp
  · have hF:=N.F1 rfl
    simp only[if_true];have hd:digs (A++(46 :: F++X))=A.length:=vE A _ N.digA (fun c h=>by cases h;rfl);rw[hd,List.drop_left,if_pos (by simp)];have hd2:digs (F++X)=F.length:=vE F X N.digF (fun c h=>by
      rcases hX with h0|h0
      · rw[h0]at h;cases h
      · rw[h0]at h;cases h;rfl)
    have e2:(46 :: F++X).drop 1=F++X:=rfl;have hFl:F.length≠0:=by
      intro h;exact hF (List.length_eq_zero_iff.1 h)
    rw[e2,hd2,if_neg hFl];have e3:(46 :: F++X).drop (1+F.length)=X:=by
      rw[Nat.add_comm];show(F++X).drop F.length=X;rw[List.drop_left]
    rw[e3];exact aGD _ (by omega) X ev N.exp
open Go.RowKit
theorem cV (s:ByteArray)(a b c:List UInt8)(h:s.data.toList=a++b++c)(j:Nat)(hj:j<s.size)(h1:a.length≤j)(h2:j-a.length<b.length):s[j]=b[j-a.length]:=by
  rw[←vB s j hj];have e:s.data.toList[j]'(by rw[←aS];exact hj)=(a++b++c)[j]'(by rw[←h,←aS];exact hj):=List.getElem_of_eq h _;rw[e,List.getElem_append_left (by rw[List.length_append];omega),List.getElem_append_right h1]
theorem oR (s:ByteArray)(a b c:List UInt8)(h:s.data.toList=a++b++c):aK s a.length (a.length+b.length)=b:=by
  unfold aK;rw[h,List.append_assoc,List.drop_left,show a.length+b.length-a.length=b.length by omega,List.take_left]
theorem aEO (s:ByteArray)(a b c:List UInt8)(h:s.data.toList=a++b++c)(j:Nat)(h1:a.length≤j)(h2:j≤a.length+b.length):aK s a.length j=b.take (j-a.length):=by
  unfold aK;rw[h,List.append_assoc,List.drop_left,List.take_append_of_le_length (by omega)]
theorem aCW {s:ByteArray}{neg dot:Bool}{A F X:List UInt8}{ev:Int}(N:uW s neg A F dot X ev) :
    ∃p0 q,wP s neg p0∧nD s p0 q∧aAY s q ev∧aK s p0 q=bJ A F dot∧p0<s.size∧(∀h:p0<s.size,s[p0].toNat≤57)∧p0=(if neg then 1 else 0):=by
  obtain⟨S,hS⟩:∃S:List UInt8,(if neg then [45]else [])=S:=⟨_,rfl⟩
  obtain⟨W,hW⟩:∃W,bJ A F dot=W:=⟨_,rfl⟩
  have ht:=N.txt;have hch:=aGk N;rw[hW]at hch
  have hW':A++(if dot then 46 :: F else [])=W:=hW;rw[hS,hW']at ht
  have hsz:s.size=S.length+W.length+X.length:=by rw[aS,ht];simp;omega
  have hA:1≤A.length:=by
    have:=N.ne;cases h:A with
    | nil=>exact absurd h this
    | cons c A'=>simp
  have hWl:A.length≤W.length:=by rw[←hW'];simp
  have hp0:S.length=(if neg then 1 else 0):=by rw[←hS];cases neg<;>rfl
  have first:∀h:S.length<s.size,aE s[S.length]=true:=by
    intro h;have e:=cV s S W X ht S.length h (Nat.le_refl _) (by omega);rw[e];have e2:W[S.length-S.length]'(by omega)=A[0]'(by omega):=by
      simp only[Nat.sub_self];have:=List.getElem_of_eq hW'.symm (i:=0) (by omega);rw[this,List.getElem_append_left (by omega)]
    rw[e2];exact N.digA _ (List.getElem_mem _)
  have hlt:S.length<s.size:=by omega
  have fb:=dV _ (first hlt);refine⟨S.length,S.length+W.length,?_,?_,?_,?_,hlt,fun h=>(dV _ (first h)).2,hp0⟩
  · refine⟨by omega,?_⟩
    cases neg
    · have hS0:S=[]:=by rw[←hS];rfl
      subst hS0;left;have b:=fb;refine⟨rfl,rfl,?_,?_⟩
      · rw[beq_eq_false_iff_ne]
        have:(s[0].toNat)=s[([]:List UInt8).length].toNat:=rfl;omega
      · rw[beq_eq_false_iff_ne]
        have:(s[0].toNat)=s[([]:List UInt8).length].toNat:=rfl;omega
    · have hS0:S=[45]:=by rw[←hS];rfl
      subst hS0;right;have e:=cV s [] [45] (W++X) (by rw[ht];simp) 0 (by omega) (Nat.zero_le _) (by simp);have e':s[0]'(by omega)=45:=e;refine⟨rfl,rfl,?_,?_⟩
      · rw[e'];decide
      · rw[e'];decide
  · refine⟨by omega,by omega,?_,?_,?_,?_⟩
    · intro j h h1 h2
      rw[cV s S W X ht j h h1 (by omega)];exact hch _ (List.getElem_mem _)
    · intro j h h1 h2 h46
      rw[aEO s S W X ht j h1 (by omega)];have e:=cV s S W X ht j h h1 (by omega);rw[h46]at e
      have hj:j-S.length=A.length:=by
        rcases Nat.lt_trichotomy (j-S.length) A.length with hl|hl|hl
        · exfalso
          have e2:W[j-S.length]'(by omega)=A[j-S.length]'hl:=by
            have:=List.getElem_of_eq hW'.symm (i:=j-S.length) (by omega);rw[this,List.getElem_append_left hl]
          rw[e2]at e
          have:=N.digA _ (List.getElem_mem hl);rw[←e]at this
          exact absurd this (by decide)
        · exact hl
        · exfalso
          cases dot
          · have:W=A:=by rw[←hW'];simp
            rw[this]at h2
            omega
          · have hWe:W=A++46 :: F:=by rw[←hW'];rfl
            have hlF:j-S.length-A.length-1<F.length:=by
              have:W.length=A.length+(F.length+1):=by rw[hWe];simp
              omega
            have e2:W[j-S.length]'(by omega)=F[j-S.length-A.length-1]'hlF:=by
              have:=List.getElem_of_eq hWe (i:=j-S.length) (by omega);rw[this,List.getElem_append_right (by omega)];rw[List.getElem_cons];rw[dif_neg (by omega)]
            rw[e2]at e
            have:=N.digF _ (List.getElem_mem hlF);rw[←e]at this
            exact absurd this (by decide)
      have e3:W.take (j-S.length)=A:=by
        rw[hj,←hW',List.take_left]
      rw[e3];exact tP A N.digA
    · rw[oR s S W X ht]
      obtain⟨c,A',hAe⟩:∃c A',A=c :: A':=by
        cases h:A with
        | nil=>rw[h]at hA;simp at hA
        | cons c A'=>exact⟨c,A',rfl⟩
      exact xZ W c (by rw[←hW',hAe];simp) (N.digA c (by rw[hAe];simp))
    · intro h
      left;have hX:X≠[]:=by
        intro h0;rw[h0]at hsz
        simp at hsz;omega
      have e:=cV s (S++W) X [] (by rw[ht];simp) (S.length+W.length) h (by simp) (by
        simp;exact List.length_pos_iff.2 hX)
      rw[e];rcases aD8 N.exp with h0|h0
      · exact absurd h0 hX
      · obtain⟨c,X',rfl⟩:∃c X',X=c :: X':=by
          cases X with
          | nil=>exact absurd rfl hX
          | cons c X'=>exact⟨c,X',rfl⟩
        simp at h0 ⊢;exact h0
  · rcases N.exp with⟨h0,h1⟩|⟨sg,Dg,es,hX,hne,hdg,hsg,hev⟩
    · left
      rw[h0]at hsz
      simp at hsz;exact⟨by omega,h1⟩
    · right
      have hDl:1≤Dg.length:=List.length_pos_iff.2 hne;have hXl:X.length=1+sg.length+Dg.length:=by rw[hX];simp;omega
      have hq:S.length+W.length+1<s.size:=by omega
      have htx:s.data.toList=(S++W++[101]++sg)++Dg++[]:=by rw[ht,hX];simp
      have hl4:(S++W++[101]++sg).length=S.length+W.length+1+sg.length:=by simp;omega
      refine⟨hq,S.length+W.length+1+sg.length,es,?_,by omega,?_,?_⟩
      · rcases hsg with⟨h1,h2⟩|⟨h1,h2⟩|⟨h1,h2⟩
        · left
          refine⟨by rw[h1];rfl,h2,?_⟩;rw[h1]at hl4
          have:=cV s _ Dg [] htx (S.length+W.length+1) hq (by rw[h1,hl4];simp) (by rw[h1,hl4];simp;omega);rw[this];exact hdg _ (List.getElem_mem _)
        · right;left
          refine⟨by rw[h1];rfl,h2,?_⟩;have:=cV s (S++W++[101]) sg Dg (by rw[ht,hX];simp) (S.length+W.length+1) hq (by simp;omega) (by rw[h1];simp;omega);rw[this];simp[h1]
        · right;right
          refine⟨by rw[h1];rfl,h2,?_⟩;have:=cV s (S++W++[101]) sg Dg (by rw[ht,hX];simp) (S.length+W.length+1) hq (by simp;omega) (by rw[h1];simp;omega);rw[this];simp[h1]
      · intro j h h1
        have:=cV s _ Dg [] htx j h (by rw[hl4];exact h1) (by rw[hl4];omega);rw[this];exact hdg _ (List.getElem_mem _)
      · have e:aK s (S.length+W.length+1+sg.length) s.size=Dg:=by
          have:=oR s _ Dg [] htx;rw[hl4,show S.length+W.length+1+sg.length+Dg.length=s.size by omega]at this
          exact this
        rw[e];exact hev
  · rw[hW];exact oR s S W X ht
theorem aEV {s:ByteArray}{neg dot:Bool}{A F X:List UInt8}{ev:Int}(N:uW s neg A F dot X ev)(w:World) :
    Calls Tryz.prog 234 #[.string s] w fun e w'=>e=.returned (.tuple #[.int .u64 (aL (bJ A F dot)).mant,.int .i64 ((aL (bJ A F dot)).expo ev),.bool neg,.bool (aL (bJ A F dot)).trunc,.bool false,.int .i64 s.size,.bool true])∧w=w':=by
  obtain⟨p0,q,h1,h2,h3,h4,_⟩:=aCW N;have:=aAH s neg p0 q w N.len h1 h2 ev h3;rw[h4]at this
  exact this
theorem aAi {s:ByteArray}{neg dot:Bool}{A F X:List UInt8}{ev:Int}(N:uW s neg A F dot X ev)(w:World) :
    Calls Tryz.prog 233 #[.string s] w fun e w'=>e=.returned (.tuple #[.float .f64 0,.int .i64 0,.bool false])∧w=w':=by
  obtain⟨p0,q,⟨g0,hsg⟩,h2,h3,h4,h5,h6,h7⟩:=aCW N;have hl:=N.len;rcases hsg with⟨rfl,rfl,a,b⟩|⟨rfl,rfl,a,b⟩
  · exact qC s w g0 hl (h6 h5) a b
  · exact wI s w h5 hl a b (h6 h5)
theorem aJO {s:ByteArray}{neg dot:Bool}{A F X:List UInt8}{ev:Int}(N:uW s neg A F dot X ev):(aL (bJ A F dot)).place=(aL (bJ A F dot)).nd-(F.length:Int):=by
  unfold RS.place bJ;cases dot
  · have hF:=N.F0 rfl
    have e:A++(if false=true then 46 :: F else [])=A:=by simp
    rw[e,tP A N.digA,hF];simp
  · have e:A++(if true=true then 46 :: F else [])=A++46 :: F:=by simp
    rw[e];obtain⟨d1,d2⟩:=aJ3 A F N.digF;rw[d1,if_pos rfl,d2]
theorem oF (n j t r:Nat):bI (bA n (j+t)) (aF (j+t)) r↔bI (bA (n*10^t) j) (aF j) r:=by
  induction t generalizing n with
  | zero=>simp
  | succ t ih =>
    rw[←Nat.add_assoc,jV,ih,Nat.pow_succ];have e:10*n*10^t=n*(10^t*10):=by rw[Nat.mul_comm 10 n,Nat.mul_assoc,Nat.mul_comm 10]
    rw[e]
theorem aAn {s:ByteArray}{neg dot:Bool}{A F X:List UInt8}{ev:Int}(N:uW s neg A F dot X ev)(V i0 R:Nat)(hV:eF (bJ A F dot)=V)(V1:1≤V)(hi0:(i0:Int)=348-F.length+ev)(ht:(aL (bJ A F dot)).trunc=false)
    (hr:bI (bA V i0) (aF i0) R) (i1:3≤i0) (i2:i0+((bJ A F dot).length-19)≤658) (hg:V<144115188075855872∨(348≤i0∧i0≤350)) (w:World) (T:aA w) :
    Calls Tryz.prog 205 #[.string s] w fun e w'=>e=.returned (.tuple #[.float .f64 (sgn neg+R),.int .i64 s.size,tI R])∧Below w.heap.size w w':=by
  have hlen:=N.len;have hch:=aGk N;have RB:=uK _ hch;have hval:=aJ4 _ hch ht;have hpl:=aJO N;have RD:=fun w=>aEV N w
  rw[hV]at hval
  obtain⟨r,hr'⟩:∃r,aL (bJ A F dot)=r:=⟨_,rfl⟩
  rw[hr']at hval hpl RB ht RD
  obtain⟨b1,b2,b3,b4,b5⟩:=RB;obtain⟨z,hz⟩:∃z,r.nd-r.ndM=z:=⟨_,rfl⟩
  rw[hz]at hval
  have hm:1≤r.mant:=by
    refine Nat.pos_of_ne_zero fun h=>?_
    rw[h,Nat.zero_mul]at hval
    omega
  have hm2:r.mant<18446744073709551616:=by
    have:=aMU r.ndM (by omega);omega
  have hmV:r.mant≤V:=by
    rw[hval];exact Nat.le_mul_of_pos_right _ (Nat.pow_pos (by decide))
  have hbl:(bJ A F dot).length≤40:=by
    have:s.data.toList.length=s.size:=(aS s).symm;rw[N.txt]at this
    simp only[List.length_append]at this;unfold bJ;simp only[List.length_append];omega
  have hx:r.expo ev=((i0+z:Nat):Int)-348:=by
    unfold RS.expo;rw[if_neg (by omega),hpl];omega
  rw[ht,hx]at RD
  have hr2:bI (bA r.mant (i0+z)) (aF (i0+z)) R:=by
    rw[oF,←hval];exact hr
  refine aM7 s r.mant (i0+z) R neg w T hm hm2 (by omega) (by omega) ?_ hr2 (fun w=>aAi N w) RD;rcases hg with h|h
  · left;omega
  · right
    exact⟨by omega,by omega⟩
theorem yT (a b:List UInt8):eF (a++b)=b.foldl lU (eF a):=by simp[eF]
theorem yV (a b:List UInt8):eF (a++46 :: b)=eF (a++b):=by
  rw[yT,yT,List.foldl_cons];rfl
theorem aAj (a:List UInt8)(n:Nat):eF (a++List.replicate n 48)=eF a*10^n:=by
  induction n with
  | zero=>simp
  | succ n ih =>
    rw[List.replicate_succ',←List.append_assoc,wD,ih,Nat.pow_succ];show eF a*10^n*10+0=_;rw[Nat.add_zero,Nat.mul_assoc]
theorem aIf (n:Nat)(b:List UInt8):eF (List.replicate n 48++b)=eF b:=by
  induction n with
  | zero=>simp
  | succ n ih =>
    rw[List.replicate_succ,List.cons_append];exact ih
theorem yU (n:Nat):eF (Lib.decDigits n)=n:=by
  induction n using Nat.strongRecOn with
  | _ n ih =>
    rw[Lib.decDigits];split
    · rename_i h
      have e:(UInt8.ofNat (48+n)).toNat=48+n:=UInt8.toNat_ofNat_of_lt' (by show _<256;omega);have n46:UInt8.ofNat (48+n)≠46:=by
        intro h46;have:=congrArg UInt8.toNat h46;rw[e]at this
        have e46:(46:UInt8).toNat=46:=rfl;omega
      show lU 0 (UInt8.ofNat (48+n))=n;unfold lU;rw[if_neg n46,e];omega
    · rename_i h
      have e:(UInt8.ofNat (48+n%10)).toNat=48+n%10:=UInt8.toNat_ofNat_of_lt' (by show _<256;omega);have n46:UInt8.ofNat (48+n%10)≠46:=by
        intro h46;have:=congrArg UInt8.toNat h46;rw[e]at this
        have e46:(46:UInt8).toNat=46:=rfl;omega
      rw[wD,ih (n / 10) (by omega)];unfold lU;rw[if_neg n46,e];omega
theorem sH (n:Nat)(h:n<10000):bR (Lib.decDigits n)=n:=by
  induction n using Nat.strongRecOn with
  | _ n ih =>
    rw[Lib.decDigits];split
    · rename_i h
      have e:(UInt8.ofNat (48+n)).toNat=48+n:=UInt8.toNat_ofNat_of_lt' (by show _<256;omega);show eD 0 (UInt8.ofNat (48+n))=n;unfold eD;rw[if_pos (by omega),e];omega
    · rename_i h
      have e:(UInt8.ofNat (48+n%10)).toNat=48+n%10:=UInt8.toNat_ofNat_of_lt' (by show _<256;omega);rw[iI,ih (n / 10) (by omega) (by omega)];unfold eD;rw[if_pos (by omega),e];omega
theorem aC5 (l:List UInt8)(h:∀c∈l,cO c=true):(aL l).nd≤19→(aL l).trunc=false:=by
  induction l using gS with
  | h0=>intro _;rfl
  | h1 l c ih =>
    have hl:∀x∈l,cO x=true:=fun x hx=>h x (by simp[hx])
    have ih:=ih hl;obtain⟨b1,b2,b3,b4,b5⟩:=uK l hl;rw[cY];generalize aL l=r at *
    unfold dC;split
    · exact ih
    · split
      · exact ih
      · split
        · intro hn
          have hn:r.nd+1≤19:=hn;exact ih (by omega)
        · intro hn
          have hn:r.nd+1≤19:=hn;omega
theorem aJy (a b:List UInt8):(aL (a++b)).nd≤(aL a).nd+b.length:=by
  induction b using gS with
  | h0=>simp
  | h1 b c ih =>
    rw[←List.append_assoc,cY,List.length_append];generalize aL (a++b)=r at *
    simp only[List.length_cons,List.length_nil];unfold dC;split
    · show r.nd≤_;omega
    · split
      · show r.nd≤_;omega
      · split
        · show r.nd+1≤_;omega
        · show r.nd+1≤_;omega
theorem aN1 (n:Nat):(aL ([48]++46 :: List.replicate n 48)).nd=0:=by
  induction n with
  | zero=>rfl
  | succ n ih =>
    rw[List.replicate_succ',show [48]++46 :: (List.replicate n 48++[48])=([48]++46 :: List.replicate n 48)++[(48:UInt8)] by simp,cY];generalize aL ([48]++46 :: List.replicate n 48)=r at *
    unfold dC;rw[if_neg (by decide),if_pos ⟨rfl,ih⟩];exact ih
theorem aLp (x:Int)(h0:-1000<x)(h1:x<1000):∃(sg Dg:List UInt8) (es:Int),(if 0<x+1 then [101,43]++Lib.itoa x else [101,45]++Lib.itoa (-x))=101 :: sg++Dg∧Dg≠[]∧(∀c∈Dg,aE c=true)∧((sg=[]∧es=1)∨(sg=[43]∧es=1)∨(sg=[45]∧es=-1))∧x=(bR Dg:Nat)*es∧Dg.length≤3:=by
  have ln:∀n:Nat,n<1000→(Lib.decDigits n).length≤3:=fun n hn=>by
    rw[Lib.decDigits_length];by_cases c1:n<10
    · rw[Lib.nDigits_small c1];omega
    · rw[Lib.nDigits_big c1]
      by_cases c2:n / 10<10
      · rw[Lib.nDigits_small c2];omega
      · rw[Lib.nDigits_big c2,Lib.nDigits_small (by omega)];omega
  have ne:∀n:Nat,Lib.decDigits n≠[]:=fun n h=>by
    have:=Lib.decDigits_length n;rw[h]at this
    have:=Lib.nDigits_pos n;simp at *
    omega
  by_cases c:0<x+1
  · rw[if_pos c]
    refine⟨[43],Lib.decDigits x.toNat,1,?_,ne _,lM _,.inr (.inl ⟨rfl,rfl⟩),?_,ln _ (by omega)⟩
    · unfold Lib.itoa
      rw[if_neg (by omega)]
    · rw[sH _ (by omega)];omega
  · rw[if_neg c]
    refine⟨[45],Lib.decDigits (-x).toNat,-1,?_,ne _,lM _,.inr (.inr ⟨rfl,rfl⟩),?_,ln _ (by omega)⟩
    · unfold Lib.itoa
      rw[if_neg (by omega)]
    · rw[sH _ (by omega)];omega
def tQ (neg:Bool)(D:List UInt8)(x:Int):List UInt8:=(if neg then [45]else [])++zO D x
theorem aCf (n:Nat):∀c∈List.replicate n (48:UInt8),aE c=true:=fun c hc=>by
  rw[(List.mem_replicate.1 hc).2];rfl
theorem aDf (neg:Bool)(D:List UInt8)(x:Int)(k1:1≤D.length)(k17:D.length≤17)(hd:∀c∈D,aE c=true)(x0:-900<x)(x1:x<900) :
    (tQ neg D x).length≤25∧∃A F dot X ev,uW ⟨(tQ neg D x).toArray⟩ neg A F dot X ev∧(aL (bJ A F dot)).trunc=false ∧
    ((eF (bJ A F dot) = eF D ∧ (348 : Int) - F.length + ev = 349 + x - D.length ∧ ((bJ A F dot).length ≤ 19 ∨ (x < 0 ∧ (bJ A F dot).length ≤ 24))) ∨
     (eF (bJ A F dot) = eF D * 10 ^ (x + 1 - D.length).toNat ∧ F.length = 0 ∧ ev = 0 ∧ (D.length : Int) ≤ x + 1 ∧ x + 1 ≤ 21 ∧ (bJ A F dot).length ≤ 21)) := by
  have hne:D≠[]:=fun h=>by rw[h]at k1;simp at k1
  have sl:(if neg then [45]else []:List UInt8).length≤1:=by cases neg<;>simp
  unfold tQ zO;by_cases c1:(D.length:Int)≤x+1∧x+1≤21
  · rw[if_pos c1]
    obtain⟨n,hn⟩:∃n,(x+1-D.length).toNat=n:=⟨_,rfl⟩
    rw[hn];have hl:((if neg then [45]else []:List UInt8)++(D++List.replicate n 48)).length≤25:=by simp only[List.length_append,List.length_replicate];omega
    refine⟨hl,D++List.replicate n 48,[],false,[],0,⟨by simp,?_,by simp,by simp[hne],fun _=>rfl,(fun h=>by cases h),.inl ⟨rfl,rfl⟩,by rw[dZ];omega⟩,?_,.inr ⟨?_,rfl,rfl,c1.1,c1.2,?_⟩⟩
    · intro c hc
      rcases List.mem_append.1 hc with h|h
      · exact hd c h
      · exact aCf n c h
    · have e:bJ (D++List.replicate n 48) [] false=D++List.replicate n 48:=by simp[bJ]
      rw[e];exact aDy D (mG D (fun c hc=>by unfold cO;rw[hd c hc];rfl) (by omega)) n
    · have e:bJ (D++List.replicate n 48) [] false=D++List.replicate n 48:=by simp[bJ]
      rw[e,aAj]
    · have e:bJ (D++List.replicate n 48) [] false=D++List.replicate n 48:=by simp[bJ]
      rw[e];simp only[List.length_append,List.length_replicate];omega
  · rw[if_neg c1]
    by_cases c2:1≤x+1∧x+1≤21
    · rw[if_pos c2]
      obtain⟨n,hn⟩:∃n,(x+1).toNat=n:=⟨_,rfl⟩
      rw[hn];have hnk:n<D.length:=by omega
      have eb:bJ (D.take n) (D.drop n) true=D.take n++46 :: D.drop n:=by simp[bJ]
      have lb:(D.take n++46 :: D.drop n).length=D.length+1:=by simp;omega
      refine⟨by simp only[List.length_append,List.length_take,List.length_drop,List.length_cons,List.length_nil];omega,D.take n,D.drop n,true,[],0,⟨by simp,fun c hc=>hd c (List.mem_of_mem_take hc),fun c hc=>hd c (List.mem_of_mem_drop hc),?_,(fun h=>by cases h),fun _=>?_,.inl ⟨rfl,rfl⟩,?_⟩,?_,.inl ⟨?_,?_,.inl ?_⟩⟩
      · intro h
        have:=congrArg List.length h;simp only[List.length_take,List.length_nil]at this;omega
      · intro h
        have:=congrArg List.length h;simp only[List.length_drop,List.length_nil]at this;omega
      · rw[dZ]
        simp only[List.length_append,List.length_take,List.length_drop,List.length_cons,List.length_nil];omega
      · rw[eb]
        refine mG _ (fun c hc=>?_) (by rw[lb];omega);unfold cO;rcases List.mem_append.1 hc with h|h
        · rw[hd c (List.mem_of_mem_take h)];rfl
        · rcases List.mem_cons.1 h with h|h
          · rw[h];rfl
          · rw[hd c (List.mem_of_mem_drop h)];rfl
      · rw[eb,yV,List.take_append_drop]
      · rw[List.length_drop];omega
      · rw[eb,lb];omega
    · rw[if_neg c2]
      by_cases c3:-5≤x+1∧x+1≤0
      · rw[if_pos c3]
        obtain⟨n,hn⟩:∃n,(-(x+1)).toNat=n:=⟨_,rfl⟩
        rw[hn];have eb:bJ [48] (List.replicate n 48++D) true=([48]++46 :: List.replicate n 48)++D:=by simp[bJ]
        have lb:(([48]++46 :: List.replicate n 48)++D:List UInt8).length=n+2+D.length:=by simp;omega
        refine⟨by simp only[List.length_append,List.length_replicate,List.length_cons,List.length_nil];omega,[48],List.replicate n 48++D,true,[],0,⟨by simp,by simp;rfl,?_,by simp,(fun h=>by cases h),(fun _=>by simp[hne]),.inl ⟨rfl,rfl⟩,?_⟩,?_,.inl ⟨?_,?_,.inr ⟨by omega,?_⟩⟩⟩
        · intro c hc
          rcases List.mem_append.1 hc with h|h
          · exact aCf n c h
          · exact hd c h
        · rw[dZ]
          simp only[List.length_append,List.length_replicate,List.length_cons,List.length_nil];omega
        · rw[eb]
          refine aC5 _ (fun c hc=>?_) ?_
          · unfold cO
            rcases List.mem_append.1 hc with h|h
            · rcases List.mem_append.1 h with h|h
              · rw[List.mem_singleton.1 h];rfl
              · rcases List.mem_cons.1 h with h|h
                · rw[h];rfl
                · rw[aCf n c h];rfl
            · rw[hd c h];rfl
          · have:=aJy ([48]++46 :: List.replicate n 48) D
            rw[aN1]at this
            omega
        · rw[eb,show([48]++46 :: List.replicate n 48)++D=[48]++46 :: (List.replicate n 48++D) by simp,yV]
          have:[48]++(List.replicate n 48++D)=List.replicate (n+1) 48++D:=by rw[List.replicate_succ];rfl
          rw[this,aIf]
        · rw[List.length_append,List.length_replicate];omega
        · rw[eb,lb];omega
      · rw[if_neg c3]
        obtain⟨sg,Dg,es,e1,e2,e3,e4,e5,e6⟩:=aLp x (by omega) (by omega);rw[e1];have sgl:sg.length≤1:=by rcases e4 with h|h|h<;>rw[h.1]<;>simp
        by_cases ck:1<D.length
        · have ep:bV D=D.take 1++46 :: D.drop 1:=by unfold bV;rw[if_pos ck]
          rw[ep];have eb:bJ (D.take 1) (D.drop 1) true=D.take 1++46 :: D.drop 1:=by simp[bJ]
          have lb:(D.take 1++46 :: D.drop 1).length=D.length+1:=by simp;omega
          refine⟨by simp only[List.length_append,List.length_take,List.length_drop,List.length_cons];omega,D.take 1,D.drop 1,true,101 :: sg++Dg,x,⟨by simp,fun c hc=>hd c (List.mem_of_mem_take hc),fun c hc=>hd c (List.mem_of_mem_drop hc),?_,(fun h=>by cases h),fun _=>?_,.inr ⟨sg,Dg,es,rfl,e2,e3,e4,e5⟩,?_⟩,?_,.inl ⟨?_,?_,.inl ?_⟩⟩
          · intro h
            have:=congrArg List.length h;simp only[List.length_take,List.length_nil]at this;omega
          · intro h
            have:=congrArg List.length h;simp only[List.length_drop,List.length_nil]at this;omega
          · rw[dZ]
            simp only[List.length_append,List.length_take,List.length_drop,List.length_cons];omega
          · rw[eb]
            refine mG _ (fun c hc=>?_) (by rw[lb];omega);unfold cO;rcases List.mem_append.1 hc with h|h
            · rw[hd c (List.mem_of_mem_take h)];rfl
            · rcases List.mem_cons.1 h with h|h
              · rw[h];rfl
              · rw[hd c (List.mem_of_mem_drop h)];rfl
          · rw[eb,yV,List.take_append_drop]
          · rw[List.length_drop];omega
          · rw[eb,lb];omega
        · have ep:bV D=D:=by
            unfold bV;rw[if_neg ck,List.append_nil,List.take_of_length_le (by omega)]
          rw[ep];have eb:bJ D [] false=D:=by simp[bJ]
          refine⟨by simp only[List.length_append,List.length_cons];omega,D,[],false,101 :: sg++Dg,x,⟨by simp,hd,by simp,hne,fun _=>rfl,(fun h=>by cases h),.inr ⟨sg,Dg,es,rfl,e2,e3,e4,e5⟩,?_⟩,?_,.inl ⟨by rw[eb],?_,.inl (by rw[eb];omega)⟩⟩
          · rw[dZ]
            simp only[List.length_append,List.length_cons];omega
          · rw[eb]
            exact mG _ (fun c hc=>by unfold cO;rw[hd c hc];rfl) (by omega)
          · simp
            omega
open Go.RowKit
theorem aL6 (s:ByteArray)(r:Nat)(w:World)(T:aA w)
    (A:∀w',aA w'→Calls Tryz.prog 205 #[.string s] w' fun e w2=>e=.returned (.tuple #[.float .f64 r,.int .i64 s.size,.nilIface])∧Below w'.heap.size w' w2) :
    Calls Tryz.prog 164 #[.string s,.int .i64 64] w fun e w'=>e=.returned (.tuple #[.float .f64 r,.int .i64 s.size,.nilIface])∧Below w.heap.size w w':=by
  have HA:=hid A;have HT:=hid T;clear A T;go_enter Tryz.func164,Tryz.ntmps164
  go_wp2_with fail
  refine(HA.out _ HT.out).mono ?_;rintro e w2 ⟨rfl,B2⟩;have HB:=hid B2;clear B2;go_wp2
  go_ret3;exact⟨rfl,HB.out⟩
theorem aP0 (s:ByteArray)(r:Nat)(w:World)(T:aA w)
    (A:∀w',aA w'→Calls Tryz.prog 205 #[.string s] w' fun e w2=>e=.returned (.tuple #[.float .f64 r,.int .i64 s.size,.nilIface])∧Below w'.heap.size w' w2) :
    Calls Tryz.prog 119 #[.string s,.int .i64 64] w fun e w'=>e=.returned (.tuple #[.float .f64 r,.nilIface])∧Below w.heap.size w w':=by
  have HA:=hid A;have HT:=hid T;clear A T;go_enter Tryz.func119,Tryz.ntmps119
  go_wp2_with fail
  refine(aL6 s r _ HT.out HA.out).mono ?_;rintro e w2 ⟨rfl,B2⟩;have HB:=hid B2;clear B2;go_wp2
  go_ret2;exact⟨rfl,HB.out⟩
theorem aBD (s:ByteArray)(r:Nat)(w:World)(T:aA w)
    (A:∀w',aA w'→Calls Tryz.prog 205 #[.string s] w' fun e w2=>e=.returned (.tuple #[.float .f64 r,.int .i64 s.size,.nilIface])∧Below w'.heap.size w' w2) :
    Calls Tryz.prog 66 #[.string s,.int .i64 64] w fun e w'=>e=.returned (.tuple #[.float .f64 r,.nilIface])∧Below w.heap.size w w':=by
  have HA:=hid A;have HT:=hid T;clear A T;go_enter Tryz.func66,Tryz.ntmps66
  go_wp2_with fail
  refine(aP0 s r _ HT.out HA.out).mono ?_;rintro e w2 ⟨rfl,B2⟩;have HB:=hid B2;clear B2;go_wp2
  go_ret2;exact⟨rfl,HB.out⟩
theorem aCu (s:ByteArray)(r:Nat)(w:World)(T:aA w)(hs:s.size≤maxLen)(hn:bX s.data.toList=true)(hi:lW r=false)
    (A:∀w',aA w'→Calls Tryz.prog 205 #[.string s] w' fun e w2=>e=.returned (.tuple #[.float .f64 r,.int .i64 s.size,.nilIface])∧Below w'.heap.size w' w2) :
    Calls Tryz.prog 21 #[.string s] w fun e w'=>e=.returned (.tuple #[.float .f64 r,.bool true])∧Below w.heap.size w w':=by
  have NB:=fun w=>pC s w hs
  rw[hn]at NB
  have HA:=hid A;have HNB:=hid NB;have HI:=hid hi;have HT:=hid T;clear A NB hn hi hs T;go_enter Tryz.func21,Tryz.ntmps21
  go_wp2_with (go_at_call 65;refine(HNB.out _).mono ?_;rintro e w' ⟨rfl,rfl⟩)
  refine(aBD s r _ HT.out HA.out).mono ?_;rintro e w2 ⟨rfl,B2⟩;have HB:=hid B2;clear B2;go_wp2_with (go_at_call 67;refine(gL r false _ HI.out).mono ?_;rintro e w' ⟨rfl,rfl⟩)
  go_ret2;exact⟨rfl,HB.out⟩
theorem aHi (s:ByteArray)(r:Nat)(t:ByteArray)(w:World)(T:aA w)
    (P:∀w,aA w→Calls Tryz.prog 21 #[.string s] w fun e w'=>e=.returned (.tuple #[.float .f64 r,.bool true])∧Below w.heap.size w w')
    (Q:∀w,aA w→Calls Tryz.prog 63 #[.float .f64 r] w fun e w'=>e=.returned (.string t)∧Below w.heap.size w w') :
    Calls Tryz.prog 20 #[.string s] w fun e w'=>e=.returned (.tuple #[.string t,.bool true])∧Below w.heap.size w w':=by
  have HP:=hid P;have HQ:=hid Q;have HT:=hid T;clear P Q T;go_enter Tryz.func20,Tryz.ntmps20
  go_wp2_with fail
  refine(HP.out _ HT.out).mono ?_;rintro e w1 ⟨rfl,B1⟩;have HB:=hid B1;have HT1:=hid (HT.out.below B1 (Nat.le_refl _));clear B1;go_wp2_with fail
  refine(HQ.out _ HT1.out).mono ?_;rintro e w2 ⟨rfl,B2⟩;have HB2:=hid (HB.out.trans (B2.mono HB.out.size));clear B2;go_wp2
  go_ret2;exact⟨rfl,HB2.out⟩
theorem oB (d:Nat)(h:d<100000000000000000):Lib.nDigits d≤17:=by
  refine Nat.le_of_not_lt fun hh=>?_
  obtain⟨n,hn⟩:∃n,Lib.nDigits d=n+18:=⟨Lib.nDigits d-18,by omega⟩
  have key:∀k u,Lib.nDigits u=k+1→k≠0→10^k≤u:=by
    intro k;induction k with
    | zero=>intro u _ h;exact absurd rfl h
    | succ k ih =>
      intro u hu _;by_cases c:u<10
      · rw[Lib.nDigits_small c]at hu;omega
      · rw[Lib.nDigits_big c]at hu
        by_cases hk:k=0
        · subst hk;simp;omega
        · have:=ih (u / 10) (by omega) hk
          rw[Nat.pow_succ];omega
  have h1:=key (n+17) d (by omega) (by omega);have h2:10^17≤10^(n+17):=Nat.pow_le_pow_right (by decide) (by omega);have e17:(10:Nat)^17=100000000000000000:=by decide
  omega
theorem aA4 (neg:Bool)(b d j:Nat)(q:Int)(h2:b<aJ)(hA:gI b d q j)(w:World)(T:aA w) :
    Calls Tryz.prog 21 #[.string ⟨(tQ neg (cJ d) ((Lib.nDigits d:Int)+q-1)).toArray⟩] w fun e w'=>e=.returned (.tuple #[.float .f64 (sgn neg+b),.bool true])∧Below w.heap.size w w':=by
  have j1:=hA.idx;have j2:=hA.j1;have j3:=hA.j2;have n1:=Lib.nDigits_pos d;have n17:=oB d hA.lt;obtain⟨l1,l2⟩:=aAs d hA.pos;obtain⟨N,hN⟩:∃N,Lib.nDigits d=N:=⟨_,rfl⟩
  have hback:=aCI d;have hv:=yU d;rw[←hback,aAj]at hv
  rw[hN]at n1 n17 l2 hv ⊢
  obtain⟨k,hk⟩:∃k,(cJ d).length=k:=⟨_,rfl⟩
  rw[hk]at l1 l2 hv
  obtain⟨hlen,A,F,dot,X,ev,hNP,ht,hcase⟩:=aDf neg (cJ d) ((N:Int)+q-1) (by omega) (by omega) (aAr d) (by omega) (by omega);rw[hk]at hcase
  have hd1:=hA.pos;have hdl:=hA.lt;have hrn:=hA.rn;obtain⟨v,hv0⟩:∃v,eF (cJ d)=v:=⟨_,rfl⟩
  rw[hv0]at hv hcase
  have v1:1≤v:=by
    refine Nat.pos_of_ne_zero fun h=>?_
    rw[h,Nat.zero_mul]at hv
    omega
  have vd:v≤d:=by
    rw[←hv];exact Nat.le_mul_of_pos_right _ (Nat.pow_pos (by decide))
  refine aCu _ (sgn neg+b) w T (by rw[dZ];unfold maxLen;omega) (aN6 hNP) (oN neg b h2) (fun w' T'=>?_);rcases hcase with⟨c1,c2,c3⟩|⟨c1,c2,c3,c4,c5,c6⟩
  · have hr2:bI (bA v (j+(N-k))) (aF (j+(N-k))) b:=by
      rw[oF,hv];exact hrn
    rw[←sI h2];exact aAn hNP v (j+(N-k)) b c1 v1 (by omega) ht hr2 (by omega) (by omega) (.inl (by omega)) w' T'
  · obtain⟨p,hp⟩:∃p,((N:Int)+q-1+1-k).toNat=p:=⟨_,rfl⟩
    rw[hp]at c1
    have hr2:bI (bA (v*10^p) 348) (aF 348) b:=by
      by_cases hq:0≤q
      · obtain⟨t,ht⟩:∃t,j=348+t:=⟨j-348,by omega⟩
        rw[ht,oF,←hv,Nat.mul_assoc,←Nat.pow_add,show N-k+t=p by omega]at hrn
        exact hrn
      · obtain⟨t,ht⟩:∃t,348=j+t:=⟨348-j,by omega⟩
        have e:bA (v*10^p) 348=bA (v*10^p) (j+t):=by rw[←ht]
        have e':aF 348=aF (j+t):=by rw[←ht]
        rw[e,e',oF,Nat.mul_assoc,←Nat.pow_add,show p+t=N-k by omega,hv];exact hrn
    have vp:1≤v*10^p:=Nat.mul_pos v1 (Nat.pow_pos (by decide));rw[←sI h2];exact aAn hNP (v*10^p) 348 b c1 vp (by omega) ht hr2 (by omega) (by omega) (.inr ⟨by omega,by omega⟩) w' T'
theorem aDW (neg:Bool)(b:Nat)(h1:1≤b)(h2:b<aJ):∃d q j,gI b d q j∧∃t:ByteArray,t=⟨(tQ neg (cJ d) ((Lib.nDigits d:Int)+q-1)).toArray⟩∧t.size≤25 ∧
    (∀w,aA w→Calls Tryz.prog 63 #[.float .f64 (sgn neg+b:Nat)] w fun e w'=>e=.returned (.string t)∧Below w.heap.size w w') ∧
    (∀w,aA w→Calls Tryz.prog 21 #[.string t] w fun e w'=>e=.returned (.tuple #[.float .f64 (sgn neg+b),.bool true])∧Below w.heap.size w w') ∧
    (∀w,aA w→Calls Tryz.prog 20 #[.string t] w fun e w'=>e=.returned (.tuple #[.string t,.bool true])∧Below w.heap.size w w'):=by
  obtain⟨d,q,j,hA,hP⟩:=aHE b h1 h2;have j1:=hA.idx;have j2:=hA.j1;have j3:=hA.j2;have n1:=Lib.nDigits_pos d;have n17:=oB d hA.lt;obtain⟨l1,l2⟩:=aAs d hA.pos;have hlen:=(aDf neg (cJ d) ((Lib.nDigits d:Int)+q-1) (by omega) (by omega) (aAr d) (by omega) (by omega)).1;have PR:∀w,aA w→Calls Tryz.prog 63 #[.float .f64 (sgn neg+b:Nat)] w fun e w'=>e=.returned (.string ⟨(tQ neg (cJ d) ((Lib.nDigits d:Int)+q-1)).toArray⟩)∧Below w.heap.size w w':=by
    intro w T;cases neg
    · have:=hP w T
      rw[vX];exact this
    · have e:sgn true=9223372036854775808:=by simp[sgn]
      rw[e];have hl:(zO (cJ d) ((Lib.nDigits d:Int)+q-1)).length≤1000:=by
        unfold tQ at hlen;simp only[List.length_append]at hlen;omega
      exact aJT b _ hl h1 h2 w T hP
  exact⟨d,q,j,hA,_,rfl,by rw[dZ];exact hlen,PR,fun w T=>aA4 neg b d j q h2 hA w T,fun w T=>aHi _ _ _ w T (fun w T=>aA4 neg b d j q h2 hA w T) PR⟩
end Go.Proofs.YtcfgbdhpcboikaaGreatDoor
