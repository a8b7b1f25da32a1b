/-
Decimal digits shifted to the left: how many more come to stand in front (the slow decimals' leftShift). No program in sight.
-/
namespace Go.Proofs.YtcfgbdhpcboikaaGreatDoor.Dec
def val:List Nat→Nat
 | []=>0
 | d :: r=>d*10^r.length+val r
theorem val_lt (l:List Nat)(h:∀d∈l,d<10):val l<10^l.length:=by
 induction l with
 | nil=>decide
 | cons d r ih =>
  have h1:=ih fun e he=>h e (List.mem_cons_of_mem _ he)
  have h2:=h d (List.mem_cons_self ..);have h3:(d+1)*10^r.length≤10*10^r.length:=Nat.mul_le_mul_right _ (by omega);show d*10^r.length+val r<10^(r.length+1);rw[Nat.pow_succ,Nat.mul_comm (10^r.length) 10];rw[Nat.add_mul,Nat.one_mul]at h3
  omega
theorem val_ge (d:Nat)(r:List Nat)(h:d≠0):10^r.length≤val (d :: r):=by
 show 10^r.length≤d*10^r.length+val r;have:1*10^r.length≤d*10^r.length:=Nat.mul_le_mul_right _ (by omega);omega
def less:List Nat→List Nat→Bool
 | _,[]=>false
 | [],_ :: _=>true
 | b :: bs,s :: ss=>if b=s then less bs ss else decide (b<s)
def Ends:List Nat→Prop
 | []=>True
 | [d]=>d≠0
 | _ :: r=>Ends r
theorem ends_tail (d:Nat)(r:List Nat)(h:Ends (d :: r)):Ends r:=by
 cases r with
 | nil=>trivial
 | cons e r=>exact h
theorem ends_pos (d:Nat)(r:List Nat)(h:Ends (d :: r)):0<val (d :: r):=by
 induction r generalizing d with
 | nil =>
  have:d≠0:=h;show 0<d*1+0;omega
 | cons e r ih =>
  have:=ih e h;show 0<d*10^(e :: r).length+val (e :: r);omega
theorem less_iff (b s:List Nat)(hb:∀d∈b,d<10)(hs:∀d∈s,d<10)(he:Ends s):less b s=true↔val b*10^s.length<val s*10^b.length:=by
 induction b generalizing s with
 | nil =>
  cases s with
  | nil=>simp[less,val]
  | cons e s =>
   have:=ends_pos e s he;simp only[less,val,List.length_nil,Nat.pow_zero,Nat.mul_one,Nat.zero_mul,true_iff];exact this
 | cons d b ih =>
  cases s with
  | nil=>simp[less,val]
  | cons e s =>
   have hbt:=val_lt b fun x hx=>hb x (List.mem_cons_of_mem _ hx)
   have hst:=val_lt s fun x hx=>hs x (List.mem_cons_of_mem _ hx)
   have ih':=ih s (fun x hx=>hb x (List.mem_cons_of_mem _ hx)) (fun x hx=>hs x (List.mem_cons_of_mem _ hx)) (ends_tail e s he);show(if d=e then less b s else decide (d<e))=true↔(d*10^b.length+val b)*10^(s.length+1)<(e*10^s.length+val s)*10^(b.length+1);have hX:val b*10^s.length<10^b.length*10^s.length:=Nat.mul_lt_mul_of_pos_right hbt (Nat.pow_pos (by decide));have hY:val s*10^b.length<10^s.length*10^b.length:=Nat.mul_lt_mul_of_pos_right hst (Nat.pow_pos (by decide));rw[Nat.mul_comm (10^s.length) (10^b.length)]at hY
   have e1:(d*10^b.length+val b)*10^(s.length+1)=(d*(10^b.length*10^s.length)+val b*10^s.length)*10:=by
    rw[Nat.pow_succ,←Nat.mul_assoc,Nat.add_mul,Nat.mul_assoc]
   have e2:(e*10^s.length+val s)*10^(b.length+1)=(e*(10^b.length*10^s.length)+val s*10^b.length)*10:=by
    rw[Nat.pow_succ,←Nat.mul_assoc,Nat.add_mul,Nat.mul_assoc,Nat.mul_comm (10^s.length) (10^b.length)]
   rw[e1,e2];generalize 10^b.length*10^s.length=P at hX hY ⊢;generalize val b*10^s.length=X at hX ih' ⊢;generalize val s*10^b.length=Y at hY ih' ⊢;by_cases h:d=e
   ·rw[if_pos h,ih',h];omega
   ·rw[if_neg h,decide_eq_true_iff];by_cases hlt:d<e
    ·have:(d+1)*P≤e*P:=Nat.mul_le_mul_right _ hlt;rw[Nat.add_mul,Nat.one_mul]at this
     omega
    ·have:(e+1)*P≤d*P:=Nat.mul_le_mul_right _ (by omega);rw[Nat.add_mul,Nat.one_mul]at this
     omega
theorem shifted (D nd k L:Nat)(h1:10^(nd-1)≤D)(h2:D<10^nd)(hn:1≤nd)(h3:10^(L-1)≤5^k)(h4:5^k<10^L)(hL:1≤L)(hk:L≤k) :
  (D*10^L<5^k*10^nd→10^(nd+(k+1-L)-2)≤D*2^k∧D*2^k<10^(nd+(k+1-L)-1))
  ∧ (¬D*10^L<5^k*10^nd→10^(nd+(k+1-L)-1)≤D*2^k∧D*2^k<10^(nd+(k+1-L))):=by
 have p5:0<5^k:=Nat.pow_pos (by decide);have e10:D*2^k*5^k=D*10^k:=by rw[Nat.mul_assoc,←Nat.mul_pow]
 have ek:10^k=10^L*10^(k-L):=by rw[←Nat.pow_add];congr 1;omega
 have pk:0<10^(k-L):=Nat.pow_pos (by decide);have mid:D*10^L<5^k*10^nd↔D*2^k<10^(nd+(k+1-L)-1):=by
  have a1:D*10^L<5^k*10^nd↔D*10^L*10^(k-L)<5^k*10^nd*10^(k-L):=(Nat.mul_lt_mul_right pk).symm;have a2:D*10^L*10^(k-L)=D*2^k*5^k:=by rw[e10,Nat.mul_assoc,←ek]
  have a3:5^k*10^nd*10^(k-L)=10^(nd+(k+1-L)-1)*5^k:=by
   rw[Nat.mul_assoc,←Nat.pow_add,Nat.mul_comm];congr 2;omega
  rw[a1,a2,a3];exact Nat.mul_lt_mul_right p5
 have low:10^(nd+(k+1-L)-2)≤D*2^k:=by
  refine Nat.le_of_mul_le_mul_right ?_ p5;rw[e10];have b1:10^(nd+(k+1-L)-2)*5^k≤10^(nd+(k+1-L)-2)*10^L:=Nat.mul_le_mul_left _ (Nat.le_of_lt h4);have b2:10^(nd+(k+1-L)-2)*10^L=10^(nd-1)*10^k:=by rw[←Nat.pow_add,←Nat.pow_add];congr 1;omega
  have b3:10^(nd-1)*10^k≤D*10^k:=Nat.mul_le_mul_right _ h1;omega
 have high:D*2^k<10^(nd+(k+1-L)):=by
  refine Nat.lt_of_mul_lt_mul_right (a:=5^k) ?_;rw[e10];have b1:10^(nd+(k+1-L))*10^(L-1)≤10^(nd+(k+1-L))*5^k:=Nat.mul_le_mul_left _ h3;have b2:10^(nd+(k+1-L))*10^(L-1)=10^nd*10^k:=by rw[←Nat.pow_add,←Nat.pow_add];congr 1;omega
  have b3:D*10^k<10^nd*10^k:=Nat.mul_lt_mul_of_pos_right h2 (Nat.pow_pos (by decide));omega
 exact⟨fun h=>⟨low,mid.mp h⟩,fun h=>⟨Nat.le_of_not_lt fun g=>h (mid.mpr g),high⟩⟩
def carry (k:Nat):List Nat→Nat
 | []=>0
 | d :: r=>(carry k r+d*2^k) / 10
theorem carry_eq (k:Nat)(l:List Nat):carry k l=val l*2^k / 10^l.length:=by
 induction l with
 | nil=>simp[carry,val]
 | cons d r ih =>
  show(carry k r+d*2^k) / 10=(d*10^r.length+val r)*2^k / 10^(r.length+1);rw[ih,Nat.pow_succ,←Nat.div_div_eq_div_mul];congr 1;have p:0<10^r.length:=Nat.pow_pos (by decide);have e:(d*10^r.length+val r)*2^k=val r*2^k+d*2^k*10^r.length:=by
   rw[Nat.add_mul,Nat.add_comm,Nat.mul_assoc,Nat.mul_comm (10^r.length),←Nat.mul_assoc]
  rw[e,Nat.add_mul_div_right _ _ p]
def steps:Nat→Nat→Nat
 | 0,_=>0
 | f+1,n=>if n=0 then 0 else 1+steps f (n / 10)
theorem steps_eq (f n j:Nat)(hf:n<10^f)(h1:10^j≤n*10)(h2:n<10^j):steps f n=j:=by
 induction f generalizing n j with
 | zero =>
  have h0:n=0:=by simpa using hf
  subst h0;have p:0<10^j:=Nat.pow_pos (by decide);omega
 | succ f ih =>
  show(if n=0 then 0 else 1+steps f (n / 10))=j;by_cases h0:n=0
  ·have p:0<10^j:=Nat.pow_pos (by decide);subst h0;omega
  ·rw[if_neg h0];cases j with
   | zero=>exact absurd h2 (by simp;omega)
   | succ j =>
    rw[Nat.pow_succ]at hf h1 h2
    by_cases hj:n / 10=0
    ·have:j=0:=by
      cases j with
      | zero=>rfl
      | succ j =>
       rw[Nat.pow_succ]at h1
       have p:0<10^j:=Nat.pow_pos (by decide);omega
     subst this;rw[hj];cases f with
     | zero=>rfl
     | succ f=>rfl
    ·have hd:10^j≤n / 10*10:=by
      cases j with
      | zero=>simp only[Nat.pow_zero]at *;omega
      | succ j=>rw[Nat.pow_succ]at h1 ⊢;omega
     rw[ih (n / 10) j (by omega) hd (by omega)];omega
theorem front (l:List Nat)(k L f:Nat)(hd:∀d∈l,d<10)(h0:l.head?≠some 0)(hn:l≠[])(h3:10^(L-1)≤5^k)(h4:5^k<10^L)(hL:1≤L)(hk:L≤k)(c:List Nat)(hc:∀d∈c,d<10)(hce:Ends c)
  (hcl:c.length=L) (hcv:val c=5^k) (hf:carry k l<10^f):steps f (carry k l)=(if less l c=true then k-L else k+1-L):=by
 have hl:1≤l.length:=by cases l with|nil=>exact absurd rfl hn|cons d r=>simp
 have hge:10^(l.length-1)≤val l:=by
  cases l with
  | nil=>exact absurd rfl hn
  | cons d r=>exact val_ge d r (fun e=>h0 (by rw[e];rfl))
 have S:=shifted (val l) l.length k L hge (val_lt l hd) hl h3 h4 hL hk;have hi:=less_iff l c hd hc hce;rw[hcl,hcv]at hi
 have pn:0<10^l.length:=Nat.pow_pos (by decide);have key:∀j,10^(l.length+j-1)≤val l*2^k→val l*2^k<10^(l.length+j)→steps f (carry k l)=j:=fun j g1 g2=>by
  cases j with
  | zero =>
   have e:carry k l=0:=by rw[carry_eq];exact Nat.div_eq_of_lt g2
   rw[e];cases f with
   | zero=>rfl
   | succ f=>rfl
  | succ j =>
   refine steps_eq f _ (j+1) hf ?_ ?_
   ·rw[carry_eq];have:10^j≤val l*2^k / 10^l.length:=by
     rw[Nat.le_div_iff_mul_le pn,←Nat.pow_add];refine Nat.le_trans (Nat.le_of_eq ?_) g1;congr 1;omega
    rw[Nat.pow_succ];omega
   ·rw[carry_eq,Nat.div_lt_iff_lt_mul pn,←Nat.pow_add];rw[Nat.add_comm (j+1)];exact g2
 by_cases h:less l c=true
 ·rw[if_pos h];have:=S.1 (hi.mp h);refine key _ ?_ ?_
  ·refine Nat.le_trans (Nat.le_of_eq ?_) this.1;congr 1;omega
  ·refine Nat.lt_of_lt_of_eq this.2 ?_;congr 1;omega
 ·rw[if_neg h];have:=S.2 (fun g=>h (hi.mpr g));refine key _ ?_ ?_
  ·refine Nat.le_trans (Nat.le_of_eq ?_) this.1;congr 1
  ·refine Nat.lt_of_lt_of_eq this.2 ?_;congr 1
def digs:Nat→Nat→List Nat→List Nat
 | 0,_,t=>t
 | f+1,n,t=>if n=0 then t else digs f (n / 10) (n%10 :: t)
theorem ends_last (l:List Nat)(h:l.getLast?≠some 0):Ends l:=by
 induction l with
 | nil=>trivial
 | cons d r ih =>
  cases r with
  | nil=>exact fun e=>h (by rw[e];rfl)
  | cons e r=>exact ih (by simpa using h)
def cut (k:Nat):List Nat:=digs 50 (5^k) []
def more (k:Nat):Nat:=k+1-(cut k).length
theorem cuts:∀k<61,k≠0→(∀d∈cut k,d<10)∧(cut k).getLast?≠some 0∧val (cut k)=5^k∧10^((cut k).length-1)≤5^k∧5^k<10^(cut k).length∧1≤(cut k).length∧(cut k).length≤k:=by decide +kernel
theorem front_table (l:List Nat)(k f:Nat)(hk:k<61)(h0k:k≠0)(hd:∀d∈l,d<10)(h0:l.head?≠some 0)(hn:l≠[])(hf:carry k l<10^f) :
  steps f (carry k l)=(if less l (cut k)=true then more k-1 else more k):=by
 obtain⟨a,b,c,d,e,g,i⟩:=cuts k hk h0k;rw[front l k (cut k).length f hd h0 hn d e g i (cut k) a (ends_last _ b) rfl c hf];unfold more;split
 ·omega
 ·rfl
def rest (k n:Nat):Nat:=n%2^k*10
def restN (k:Nat):Nat→Nat→Nat
 | 0,n=>n
 | i+1,n=>restN k i (rest k n)
theorem rest_lt (k n:Nat):rest k n<10*2^k:=by
 have:=Nat.mod_lt n (Nat.pow_pos (n:=k) (by decide:0<2));unfold rest;omega
theorem rest_add (k n c:Nat)(hc:c<10):rest k n+c<10*2^k∧(rest k n+c) / 2^k<10:=by
 have h:=Nat.mod_lt n (Nat.pow_pos (n:=k) (by decide:0<2));have h2:rest k n+c<10*2^k:=by unfold rest;omega
 exact⟨h2,(Nat.div_lt_iff_lt_mul (Nat.pow_pos (by decide))).mpr h2⟩
theorem first_add (k n c:Nat)(hn:n / 2^k=0)(hc:c<10):n*10+c<10*2^k:=by
 have h:n<2^k:=by
  rcases Nat.lt_or_ge n (2^k)with h|h
  ·exact h
  ·have:=Nat.div_pos h (Nat.pow_pos (by decide));omega
 omega
theorem rest_dvd (k n j:Nat)(hj:j<k)(h:2^j∣n):2^(j+1)∣rest k n:=by
 unfold rest;rw[Nat.pow_succ];refine Nat.mul_dvd_mul ?_ (by decide);exact(Nat.dvd_mod_iff (Nat.pow_dvd_pow 2 (Nat.le_of_lt hj))).mpr h
theorem rest_ends (k n j:Nat)(hj:j≤k)(h:2^j∣n):restN k (k-j+1) n=0:=by
 induction hi:k-j generalizing n j with
 | zero =>
  have e:j=k:=by omega
  subst e;show rest j n=0;unfold rest;rw[Nat.mod_eq_zero_of_dvd h]
 | succ i ih =>
  show restN k (i+1) (rest k n)=0;exact ih (rest k n) (j+1) (by omega) (rest_dvd k n j (by omega) h) (by omega)
theorem rest_all (k n:Nat):restN k (k+1) n=0:=rest_ends k n 0 (Nat.zero_le _) (Nat.one_dvd _)
theorem carry_lt (k:Nat)(l:List Nat)(h:∀d∈l,d<10):carry k l<2^k:=by
 have p:0<2^k:=Nat.pow_pos (by decide);induction l with
 | nil=>exact p
 | cons d r ih =>
  have h1:=ih fun e he=>h e (List.mem_cons_of_mem _ he)
  have h2:d*2^k≤9*2^k:=Nat.mul_le_mul_right _ (by have:=h d (List.mem_cons_self ..);omega);show(carry k r+d*2^k) / 10<2^k;omega
theorem carry_add_lt (k d:Nat)(l:List Nat)(h:∀d∈l,d<10)(hd:d<10):carry k l+d*2^k<10*2^k:=by
 have h1:=carry_lt k l h;have h2:d*2^k≤9*2^k:=Nat.mul_le_mul_right _ (by omega);omega
def lows (k:Nat):List Nat→List Nat
 | []=>[]
 | d :: r=>(carry k r+d*2^k)%10 :: lows k r
theorem lows_len (k:Nat)(l:List Nat):(lows k l).length=l.length:=by
 induction l with
 | nil=>rfl
 | cons d r ih=>simp[lows,ih]
theorem lows_val (k:Nat)(l:List Nat):val l*2^k=carry k l*10^l.length+val (lows k l):=by
 induction l with
 | nil=>simp[val,carry,lows]
 | cons d r ih =>
  show(d*10^r.length+val r)*2^k=(carry k r+d*2^k) / 10*10^(r.length+1)+((carry k r+d*2^k)%10*10^(lows k r).length+val (lows k r))
  rw[lows_len];have e1:(d*10^r.length+val r)*2^k=d*2^k*10^r.length+val r*2^k:=by
   rw[Nat.add_mul,Nat.mul_assoc,Nat.mul_comm (10^r.length),←Nat.mul_assoc]
  have e2:(carry k r+d*2^k) / 10*10^(r.length+1)+(carry k r+d*2^k)%10*10^r.length=(carry k r+d*2^k)*10^r.length:=by
   rw[Nat.pow_succ,Nat.mul_comm (10^r.length) 10,←Nat.mul_assoc,←Nat.add_mul];congr 1;omega
  rw[Nat.add_mul (carry k r)]at e2
  rw[e1,ih];omega
theorem lows_lt (k:Nat)(l:List Nat):∀d∈lows k l,d<10:=by
 induction l with
 | nil=>intro d h;cases h
 | cons e r ih =>
  intro d h;rcases List.mem_cons.mp h with h|h
  ·rw[h];exact Nat.mod_lt _ (by decide)
  ·exact ih d h
end Go.Proofs.YtcfgbdhpcboikaaGreatDoor.Dec
namespace Go.Proofs.YtcfgbdhpcboikaaGreatDoor.Dec
def ch (d:Nat):UInt8:=UInt8.ofNat (d+48)
def un (c:UInt8):Nat:=c.toNat-48
theorem ch_nat (d:Nat)(h:d<10):(ch d).toNat=d+48:=by
 unfold ch;rw[UInt8.toNat_ofNat'];omega
theorem un_ch (d:Nat)(h:d<10):un (ch d)=d:=by unfold un;rw[ch_nat d h];omega
def dgs (D:List UInt8)(n:Nat):List Nat:=(D.take n).map un
def ow (D:List UInt8)(w:Nat)(xs:List UInt8):List UInt8:=D.take w++(xs.take (800-w)++D.drop (w+xs.length))
theorem ow_get (D:List UInt8)(w:Nat)(xs:List UInt8)(hD:D.length=800)(i:Nat) :
  (ow D w xs)[i]?=if i<w then D[i]? else if i<w+xs.length∧i<800 then xs[i-w]? else D[i]?:=by
 unfold ow;rw[List.getElem?_append,List.length_take];by_cases h1:i<w
 ·rw[if_pos h1];by_cases h2:i<800
  ·rw[if_pos (by omega),List.getElem?_take,if_pos h1]
  ·rw[if_neg (by omega),List.getElem?_append,List.length_take];rw[List.getElem?_eq_none (l:=D) (by omega)];rw[if_neg (by omega)];exact List.getElem?_eq_none (by rw[List.length_drop];omega)
 ·rw[if_neg h1];by_cases h3:i<w+xs.length∧i<800
  ·rw[if_pos h3,if_neg (by omega),List.getElem?_append,List.length_take,if_pos (by omega),List.getElem?_take,if_pos (by omega)];congr 1;omega
  ·rw[if_neg h3];by_cases h2:i<800
   ·rw[if_neg (by omega),List.getElem?_append,List.length_take,if_neg (by omega),List.getElem?_drop];congr 1;omega
   ·rw[List.getElem?_eq_none (l:=D) (by omega)];rw[if_neg (by omega),List.getElem?_append,List.length_take,if_neg (by omega)];exact List.getElem?_eq_none (by rw[List.length_drop];omega)
theorem ow_len (D:List UInt8)(w:Nat)(xs:List UInt8)(hD:D.length=800):(ow D w xs).length=800:=by
 unfold ow;rw[List.length_append,List.length_append,List.length_take,List.length_take,List.length_drop];omega
theorem ow_nil (D:List UInt8)(w:Nat):ow D w []=D:=by simp[ow]
theorem ow_set (D:List UInt8)(w:Nat)(xs:List UInt8)(c:UInt8)(hD:D.length=800)(hw:w<800):(ow D (w+1) xs).set w c=ow D w (c :: xs):=by
 apply List.ext_getElem?;intro i;rw[List.getElem?_set,ow_get D _ _ hD,ow_get D _ _ hD,ow_len D _ _ hD,List.length_cons];by_cases h:w=i
 ·subst h;rw[if_pos rfl,if_pos hw,if_neg (by omega),if_pos ⟨by omega,hw⟩];simp
 ·rw[if_neg h];by_cases h1:i<w
  ·rw[if_pos (by omega),if_pos h1]
  ·rw[if_neg (by omega),if_neg h1];by_cases h2:i<w+1+xs.length∧i<800
   ·rw[if_pos h2,if_pos ⟨by omega,h2.2⟩,show i-w=(i-(w+1))+1 by omega,List.getElem?_cons_succ]
   ·rw[if_neg h2,if_neg (by omega)]
theorem ow_out (D:List UInt8)(w:Nat)(xs:List UInt8)(c:UInt8)(hD:D.length=800)(hw:800≤w):ow D (w+1) xs=ow D w (c :: xs):=by
 apply List.ext_getElem?;intro i;rw[ow_get D _ _ hD,ow_get D _ _ hD];by_cases h:i<800
 ·rw[if_pos (by omega),if_pos (by omega)]
 ·have:D[i]?=none:=List.getElem?_eq_none (by omega);rw[this];have e:∀(p:Prop) [Decidable p],(if p then (none:Option UInt8)else none)=none:=fun p _=>by split<;>rfl
  rw[if_neg (c:=i<w+1+xs.length∧i<800) (fun g=>h g.2),if_neg (c:=i<w+(c :: xs).length∧i<800) (fun g=>h g.2),e,e]
theorem ow_snoc (D:List UInt8)(xs:List UInt8)(c:UInt8)(hD:D.length=800)(hw:xs.length<800):(ow D 0 xs).set xs.length c=ow D 0 (xs++[c]):=by
 apply List.ext_getElem?;intro i;rw[List.getElem?_set,ow_get D _ _ hD,ow_get D _ _ hD,ow_len D _ _ hD,List.length_append];by_cases h:xs.length=i
 ·subst h;rw[if_pos rfl,if_pos hw,if_neg (by omega),if_pos ⟨by simp,hw⟩];simp
 ·have z:¬i<0:=by omega
  rw[if_neg h,if_neg z,if_neg z];by_cases h2:i<0+xs.length∧i<800
  ·rw[if_pos h2,if_pos ⟨by omega,h2.2⟩,List.getElem?_append,if_pos (by omega)]
  ·rw[if_neg h2,if_neg (by simp;omega)]
theorem ow_full (D:List UInt8)(xs:List UInt8)(c:UInt8)(hw:800≤xs.length)(hD:D.length=800):ow D 0 xs=ow D 0 (xs++[c]):=by
 unfold ow;rw[List.take_append_of_le_length (by omega),List.drop_eq_nil_of_le (as:=D) (by omega),List.drop_eq_nil_of_le (as:=D) (by rw[List.length_append];omega)]
def over (w:Nat)(xs:List UInt8):Bool:=(xs.drop (800-w)).any (· != 48)
theorem over_in (w:Nat)(xs:List UInt8)(c:UInt8)(hw:w<800):over w (c :: xs)=over (w+1) xs:=by
 unfold over;rw[show 800-w=(800-(w+1))+1 by omega,List.drop_succ_cons]
theorem over_out (w:Nat)(xs:List UInt8)(c:UInt8)(hw:800≤w):over w (c :: xs)=(c !=48||over (w+1) xs):=by
 unfold over;rw[show 800-w=0 by omega,show 800-(w+1)=0 by omega];simp
theorem over_nil (w:Nat):over w []=false:=by simp[over]
theorem over_snoc_in (xs:List UInt8)(c:UInt8)(h:xs.length<800):over 0 (xs++[c])=over 0 xs:=by
 unfold over;rw[List.drop_eq_nil_of_le (by rw[List.length_append];simp;omega),List.drop_eq_nil_of_le (by omega)]
theorem over_snoc_out (xs:List UInt8)(c:UInt8)(h:800≤xs.length):over 0 (xs++[c])=(over 0 xs||c !=48):=by
 unfold over;rw[List.drop_append_of_le_length (by omega),List.any_append];simp
def trimL (l:List UInt8):Nat:=(l.reverse.dropWhile (· == 48)).length
theorem trimL_le (l:List UInt8):trimL l≤l.length:=by
 unfold trimL;have:∀(r:List UInt8),(r.dropWhile (· == 48)).length≤r.length:=by
  intro r;induction r with
  | nil=>simp
  | cons a r ih=>rw[List.dropWhile_cons];split<;>simp<;>omega
 have:=this l.reverse;simpa using this
theorem trimL_snoc (l:List UInt8)(c:UInt8):trimL (l++[c])=if c=48 then trimL l else l.length+1:=by
 unfold trimL;rw[List.reverse_append,List.reverse_singleton,List.singleton_append,List.dropWhile_cons];by_cases h:c=48
 ·simp[h]
 ·simp[h]
theorem trimL_take (D:List UInt8)(k:Nat)(c:UInt8)(h:D[k]?=some c)(hc:c=48):trimL (D.take (k+1))=trimL (D.take k):=by
 rw[List.take_add_one,h,Option.toList_some,trimL_snoc,if_pos hc]
theorem trimL_stop (D:List UInt8)(k:Nat)(c:UInt8)(h:D[k]?=some c)(hc:c≠48):trimL (D.take (k+1))=k+1:=by
 have hk:k<D.length:=(List.getElem?_eq_some_iff.1 h).1;rw[List.take_add_one,h,Option.toList_some,trimL_snoc,if_neg hc,List.length_take];omega
theorem trimL_pos (l:List UInt8)(c:UInt8)(h:l.head?=some c)(hc:c≠48):1≤trimL l:=by
 cases l with
 | nil=>cases h
 | cons a r =>
  have e:a=c:=by simpa using h
  subst e;unfold trimL;rw[List.reverse_cons];have:∀(q:List UInt8),1≤((q++[a]).dropWhile (· == 48)).length:=by
   intro q;induction q with
   | nil=>rw[List.nil_append,List.dropWhile_cons,if_neg (by simpa using hc)];simp
   | cons b q ih=>rw[List.cons_append,List.dropWhile_cons];split<;>first|exact ih|simp
  exact this _
structure Dc where
 D:List UInt8
 nd:Nat
 dp:Int
 neg:Bool
 trunc:Bool
structure Fine (s:Dc):Prop where
 len:s.D.length=800
 le:s.nd≤800
 dig:∀c∈s.D.take s.nd,48≤c.toNat∧c.toNat≤57
 head:∀c,(s.D.take s.nd).head?=some c→c≠48
def Dc.top (s:Dc):Nat:=un (s.D.headD 48)
def trimD (s:Dc):Dc:={ s with nd:=trimL (s.D.take s.nd),dp:=if trimL (s.D.take s.nd)=0 then 0 else s.dp }
def fullN (k:Nat)(ds:List Nat):List Nat:=digs 25 (carry k ds) (lows k ds)
def fullL (k:Nat)(ds:List Nat):List UInt8:=(fullN k ds).map ch
theorem digs_len (f n:Nat)(t:List Nat):(digs f n t).length=steps f n+t.length:=by
 induction f generalizing n t with
 | zero=>simp[digs,steps]
 | succ f ih =>
  unfold digs steps;split
  ·simp
  ·rw[ih,List.length_cons];omega
theorem digs_lt (f n:Nat)(t:List Nat)(h:∀d∈t,d<10):∀d∈digs f n t,d<10:=by
 induction f generalizing n t with
 | zero=>exact h
 | succ f ih =>
  unfold digs;split
  ·exact h
  ·refine ih _ _ fun d hd=>?_
   rcases List.mem_cons.1 hd with h1|h1
   ·rw[h1];exact Nat.mod_lt _ (by decide)
   ·exact h d h1
theorem digs_head (f n:Nat)(t:List Nat)(hf:n<10^f)(hn:n≠0):∃d r,digs f n t=d :: r∧d≠0:=by
 induction f generalizing n t with
 | zero=>exact absurd (by simpa using hf) hn
 | succ f ih =>
  unfold digs;rw[if_neg hn];by_cases h:n / 10=0
  ·rw[h];have hz:∀g (l:List Nat),digs g 0 l=l:=by intro g l;cases g<;>simp[digs]
   rw[hz];exact⟨_,_,rfl,by omega⟩
  ·exact ih _ _ (by rw[Nat.pow_succ]at hf;omega) h
theorem carry_25 (k:Nat)(ds:List Nat)(hk:k<61)(h:∀d∈ds,d<10):carry k ds<10^25:=by
 have h1:=carry_lt k ds h;have h2:2^k≤2^60:=Nat.pow_le_pow_right (by decide) (by omega);have h3:(2:Nat)^60<10^25:=by decide
 omega
theorem val_top (d:Nat)(r:List Nat)(h:∀e∈d :: r,e<10):val (d :: r) / 10^r.length=d:=by
 have h1:=val_lt r fun e he=>h e (List.mem_cons_of_mem _ he)
 show(d*10^r.length+val r) / 10^r.length=d;rw[Nat.mul_comm,Nat.mul_add_div (Nat.pow_pos (by decide)),Nat.div_eq_of_lt h1];omega
theorem fullN_head (k:Nat)(d:Nat)(r:List Nat)(h1:1≤k)(hk:k<61)(hd:d≠0)(h:∀e∈d :: r,e<10) :
  ∃e q,fullN k (d :: r)=e :: q∧e≠0∧(steps 25 (carry k (d :: r))=0→d<e):=by
 have c25:=carry_25 k (d :: r) hk h;by_cases hc:carry k (d :: r)=0
 ·have e0:fullN k (d :: r)=lows k (d :: r):=by unfold fullN;rw[hc];rfl
  have hv:=lows_val k (d :: r);rw[hc,Nat.zero_mul,Nat.zero_add]at hv
  have hl:=lows_len k (d :: r);have hlt:=lows_lt k (d :: r);rw[e0];cases hx:lows k (d :: r)with
  | nil=>rw[hx]at hl;simp at hl
  | cons e q =>
   rw[hx]at hv hl hlt
   have hq:q.length=r.length:=by simpa using hl
   have he:=val_top e q hlt;have hd2:=val_ge d r hd;have p:0<10^r.length:=Nat.pow_pos (by decide);have two:2≤2^k:=by
    have:2^1≤2^k:=Nat.pow_le_pow_right (by decide) h1;omega
   have h3:d*10^r.length≤val (d :: r):=by show _≤d*10^r.length+val r;omega
   have h4:(2*d)*10^r.length≤val (e :: q):=by
    rw[←hv]
    calc (2*d)*10^r.length=d*10^r.length*2:=by rw[Nat.mul_assoc,Nat.mul_comm]
     _≤val (d :: r)*2^k:=Nat.mul_le_mul h3 two
   have h5:2*d≤e:=by
    rw[←he,hq,Nat.le_div_iff_mul_le p];exact h4
   exact⟨e,q,rfl,by omega,fun _=>by omega⟩
 ·obtain⟨e,q,h2,h3⟩:=digs_head 25 (carry k (d :: r)) (lows k (d :: r)) c25 hc;refine⟨e,q,h2,h3,fun h0=>absurd ?_ hc⟩;have:steps 25 (carry k (d :: r))=if carry k (d :: r)=0 then 0 else 1+steps 24 (carry k (d :: r) / 10):=rfl
  rw[this]at h0
  by_cases g:carry k (d :: r)=0
  ·exact g
  ·rw[if_neg g]at h0;omega
def lshD (k:Nat)(s:Dc):Dc :=
 { s with D:=ow s.D 0 (fullL k (dgs s.D s.nd)),nd:=min (fullL k (dgs s.D s.nd)).length 800,dp:=s.dp+((fullL k (dgs s.D s.nd)).length-s.nd:Nat),trunc:=s.trunc||over 0 (fullL k (dgs s.D s.nd)) }
def lsh (k:Nat)(s:Dc):Dc:=trimD (lshD k s)
theorem fine_cons {s:Dc}(h:Fine s)(hn:1≤s.nd):∃d r,dgs s.D s.nd=d :: r∧d≠0∧s.top=d∧(∀e∈d :: r,e<10)∧r.length+1=s.nd:=by
 obtain⟨h1,h2,h3,h4⟩:=h;have hl:(s.D.take s.nd).length=s.nd:=by rw[List.length_take];omega
 cases hx:s.D.take s.nd with
 | nil=>rw[hx]at hl;simp at hl;omega
 | cons c q =>
  rw[hx]at h3 h4 hl
  have hc:=h4 c rfl;have hb:=h3 c (List.mem_cons_self ..);refine⟨un c,q.map un,by unfold dgs;rw[hx];rfl,?_,?_,?_,by rw[List.length_map];simpa using hl⟩
  ·intro e;apply hc;apply UInt8.toNat_inj.1;show _=48;unfold un at e;omega
  ·have e:s.D.headD 48=c:=by
    have:=List.take_append_drop s.nd s.D;rw[hx]at this
    rw[←this];rfl
   unfold Dc.top;rw[e]
  ·intro e he;rw[←List.map_cons (f:=un)]at he
   obtain⟨b,hb',rfl⟩:=List.mem_map.1 he;have:=h3 b hb';unfold un;omega
theorem fine_laid (s:Dc)(xs:List Nat)(hs:s.D.length=800)(e:Nat)(q:List Nat)(hx:xs=e :: q)(he:e≠0)(hd:∀d∈xs,d<10)(dp:Int)(tr:Bool) :
  Fine (trimD { s with D:=ow s.D 0 (xs.map ch),nd:=min (xs.map ch).length 800,dp:=dp,trunc:=tr }) ∧
  1≤(trimD { s with D:=ow s.D 0 (xs.map ch),nd:=min (xs.map ch).length 800,dp:=dp,trunc:=tr }).nd ∧
  (trimD { s with D:=ow s.D 0 (xs.map ch),nd:=min (xs.map ch).length 800,dp:=dp,trunc:=tr }).dp=dp ∧
  (trimD { s with D:=ow s.D 0 (xs.map ch),nd:=min (xs.map ch).length 800,dp:=dp,trunc:=tr }).top=e:=by
 have hlen:(ow s.D 0 (xs.map ch)).length=800:=ow_len _ _ _ hs;have htk:(ow s.D 0 (xs.map ch)).take (min (xs.map ch).length 800)=(xs.map ch).take 800:=by
  apply List.ext_getElem?;intro i;rw[List.getElem?_take,List.getElem?_take,ow_get _ _ _ hs];by_cases h1:i<min (xs.map ch).length 800
  ·rw[if_pos h1,if_neg (by omega),if_pos ⟨by omega,by omega⟩,if_pos (by omega)];rfl
  ·rw[if_neg h1];by_cases h2:i<800
   ·rw[if_pos h2];exact(List.getElem?_eq_none (by omega)).symm
   ·rw[if_neg h2]
 have hhd:((xs.map ch).take 800).head?=some (ch e):=by rw[hx];rfl
 have he10:e<10:=hd e (by rw[hx];exact List.mem_cons_self ..);have hne:ch e≠48:=by
  intro h;have:=congrArg UInt8.toNat h;rw[ch_nat e he10]at this
  have e48:(48:UInt8).toNat=48:=rfl;omega
 have hpos:=trimL_pos _ _ hhd hne;have hle:=trimL_le ((xs.map ch).take 800);have hl8:((xs.map ch).take 800).length≤800:=by rw[List.length_take];omega
 unfold trimD;simp only[htk];refine⟨⟨hlen,by show trimL _≤800;omega,?_,?_⟩,hpos,by show(if _ then _ else _)=_;rw[if_neg (by omega)],?_⟩
 ·intro c hc;have hc2:c∈xs.map ch:=by
   have h1:c∈(ow s.D 0 (xs.map ch)).take (min (xs.map ch).length 800):=by
    refine List.mem_of_mem_take (i:=trimL ((xs.map ch).take 800)) ?_;rw[List.take_take];have hm:min (trimL ((xs.map ch).take 800)) (min (xs.map ch).length 800)=trimL ((xs.map ch).take 800):=by
     rw[List.length_take]at hle
     omega
    rw[hm];exact hc
   rw[htk]at h1
   exact List.mem_of_mem_take h1
  obtain⟨d,hd1,rfl⟩:=List.mem_map.1 hc2;have:=hd d hd1;rw[ch_nat d this];omega
 ·intro c hc;have h0:(ow s.D 0 (xs.map ch)).head?=some (ch e):=by
   rw[List.head?_eq_getElem?,ow_get _ _ _ hs,if_neg (by omega),if_pos ⟨by rw[hx];simp,by omega⟩,hx];rfl
  have h1:((ow s.D 0 (xs.map ch)).take (trimL ((xs.map ch).take 800))).head?=(ow s.D 0 (xs.map ch)).head?:=by
   rw[List.head?_take,if_neg (by omega)]
  have:c=ch e:=by
   rw[h1,h0]at hc
   exact(Option.some.inj hc).symm
  rw[this];exact hne
 ·unfold Dc.top;have h0:(ow s.D 0 (xs.map ch)).headD 48=ch e:=by
   have h0:(ow s.D 0 (xs.map ch)).head?=some (ch e):=by
    rw[List.head?_eq_getElem?,ow_get _ _ _ hs,if_neg (by omega),if_pos ⟨by rw[hx];simp,by omega⟩,hx];rfl
   rw[List.headD_eq_head?_getD,h0];rfl
  show un ((ow s.D 0 (xs.map ch)).headD 48)=e;rw[h0,un_ch e he10]
theorem fullN_len (k:Nat)(ds:List Nat):(fullN k ds).length=steps 25 (carry k ds)+ds.length:=by
 unfold fullN;rw[digs_len,lows_len]
theorem lsh_fine (k:Nat)(s:Dc)(h1:1≤k)(hk:k<61)(h:Fine s)(hn:1≤s.nd):Fine (lsh k s)∧1≤(lsh k s).nd∧s.dp≤(lsh k s).dp∧(lsh k s).dp≤s.dp+25∧((lsh k s).dp=s.dp→s.top<(lsh k s).top)∧(lsh k s).top<10:=by
 obtain⟨d,r,e1,e2,e3,e4,e5⟩:=fine_cons h hn;obtain⟨e,q,f1,f2,f3⟩:=fullN_head k d r h1 hk e2 e4;have hlt:∀x∈fullN k (d :: r),x<10:=digs_lt _ _ _ (lows_lt k _);have hl:=fullN_len k (d :: r);have st:steps 25 (carry k (d :: r))≤25:=by
  have:∀f n,steps f n≤f:=by
   intro f;induction f with
   | zero=>intro n;simp[steps]
   | succ f ih=>intro n;unfold steps;split<;>first|omega|(have:=ih (n / 10);omega)
  exact this 25 _
 obtain⟨g1,g2,g3,g4⟩:=fine_laid s (fullN k (d :: r)) h.len e q f1 f2 hlt (s.dp+((fullL k (dgs s.D s.nd)).length-s.nd:Nat)) (s.trunc||over 0 (fullL k (dgs s.D s.nd)));have hL:lsh k s=trimD { s with D:=ow s.D 0 ((fullN k (d :: r)).map ch),nd:=min ((fullN k (d :: r)).map ch).length 800,dp:=s.dp+((fullL k (dgs s.D s.nd)).length-s.nd:Nat),trunc:=s.trunc||over 0 (fullL k (dgs s.D s.nd)) }:=by
  unfold lsh lshD fullL;rw[e1]
 rw[hL];have hdl:(fullL k (dgs s.D s.nd)).length-s.nd=steps 25 (carry k (d :: r)):=by
  unfold fullL;rw[List.length_map,e1,hl,List.length_cons];omega
 refine⟨g1,g2,by rw[g3];omega,by rw[g3,hdl];omega,?_,?_⟩
 ·rw[g3,g4,hdl,e3];intro h0;exact f3 (by omega)
 ·rw[g4];exact hlt e (by rw[f1];exact List.mem_cons_self ..)
def pickz (k:Nat):Nat→Nat→Nat→Nat × Nat
 | 0,n,r=>(n,r)
 | f+1,n,r=>if n / 2^k=0 then pickz k f (n*10) (r+1)else (n,r)
theorem pickZ {α:Type}{a:α}{r:List α}:(a::r)[0]?=some a:=List.getElem?_cons_zero
theorem pickS {α:Type}{a:α}{r:List α}{i:Nat}:(a::r)[i+1]?=r[i]?:=List.getElem?_cons_succ
theorem pickG {α:Type}{a b:α}:(some a).getD b=a:=Option.getD_some
def pick (k:Nat):List Nat→Nat→Nat→Nat × Nat
 | [],n,r=>pickz k 20 n r
 | d :: l,n,r=>if n / 2^k=0 then pick k l (n*10+d) (r+1)else (n,r)
def out2 (k:Nat):Nat→List Nat→List Nat
 | _,[]=>[]
 | n,c :: l=>n / 2^k :: out2 k (rest k n+c) l
def left2 (k:Nat):Nat→List Nat→Nat
 | n,[]=>n
 | n,c :: l=>left2 k (rest k n+c) l
def out3 (k:Nat):Nat→Nat→List Nat
 | 0,_=>[]
 | f+1,n=>if n=0 then []else n / 2^k :: out3 k f (rest k n)
def fullR (k:Nat)(ds:List Nat):List Nat :=
 out2 k (pick k ds 0 0).1 (ds.drop (pick k ds 0 0).2)++out3 k (k+2) (left2 k (pick k ds 0 0).1 (ds.drop (pick k ds 0 0).2))
def rshD (k:Nat)(s:Dc):Dc :=
 { s with D:=ow s.D 0 ((fullR k (dgs s.D s.nd)).map ch),nd:=min ((fullR k (dgs s.D s.nd)).map ch).length 800,dp:=s.dp-((pick k (dgs s.D s.nd) 0 0).2-1),trunc:=s.trunc||over 0 ((fullR k (dgs s.D s.nd)).map ch) }
def rsh (k:Nat)(s:Dc):Dc:=trimD (rshD k s)
theorem pickz_ok (k f n r:Nat)(h0:2^k≤n*10^f)(h1:n<10*2^k):2^k≤(pickz k f n r).1∧(pickz k f n r).1<10*2^k∧r≤(pickz k f n r).2∧(pickz k f n r).2≤r+f:=by
 have p:0<2^k:=Nat.pow_pos (by decide);induction f generalizing n r with
 | zero=>exact⟨by simpa [pickz]using h0,h1,Nat.le_refl _,Nat.le_refl _⟩
 | succ f ih =>
  unfold pickz;split
  ·rename_i h;have h2:=first_add k n 0 h (by decide);have:=ih (n*10) (r+1) (by rw[Nat.mul_assoc,←Nat.pow_succ'];exact h0) (by omega);exact⟨this.1,this.2.1,by omega,by omega⟩
  ·rename_i h;refine⟨?_,h1,Nat.le_refl _,by omega⟩;rcases Nat.lt_or_ge n (2^k)with g|g
   ·exact absurd (Nat.div_eq_of_lt g) h
   ·exact g
theorem pick_ok (k:Nat)(l:List Nat)(n r:Nat)(hk:k<61)(hl:∀d∈l,d<10)(hn:1≤n∨(∃d q,l=d :: q∧d≠0))(h1:n<10*2^k) :
  2^k≤(pick k l n r).1∧(pick k l n r).1<10*2^k∧r≤(pick k l n r).2∧(pick k l n r).2≤r+l.length+20:=by
 have p:0<2^k:=Nat.pow_pos (by decide);induction l generalizing n r with
 | nil =>
  rcases hn with hn|⟨d,q,h,_⟩
  ·have h2:2^k≤2^60:=Nat.pow_le_pow_right (by decide) (by omega);have h3:(2:Nat)^60≤10^20:=by decide
   have h4:1*10^20≤n*10^20:=Nat.mul_le_mul_right _ hn;have:=pickz_ok k 20 n r (by omega) h1;exact⟨this.1,this.2.1,this.2.2.1,by have:=this.2.2.2;simp only[List.length_nil];show(pickz k 20 n r).2≤_;omega⟩
  ·cases h
 | cons d l ih =>
  unfold pick;split
  ·rename_i h;have hd:=hl d (List.mem_cons_self ..);have h2:=first_add k n d h hd;have hx:1≤n*10+d:=by
    rcases hn with hn|⟨e,q,he,h0⟩
    ·omega
    ·have:d=e:=by injection he
     subst this;omega
   have:=ih (n*10+d) (r+1) (fun e he=>hl e (List.mem_cons_of_mem _ he)) (.inl hx) h2;exact⟨this.1,this.2.1,by omega,by rw[List.length_cons];omega⟩
  ·rename_i h;refine⟨?_,h1,Nat.le_refl _,by omega⟩;rcases Nat.lt_or_ge n (2^k)with g|g
   ·exact absurd (Nat.div_eq_of_lt g) h
   ·exact g
theorem out2_lt (k:Nat)(l:List Nat)(n:Nat)(hl:∀d∈l,d<10)(h1:n<10*2^k):(∀d∈out2 k n l,d<10)∧left2 k n l<10*2^k:=by
 have p:0<2^k:=Nat.pow_pos (by decide);induction l generalizing n with
 | nil=>exact⟨fun d h=>(by cases h),h1⟩
 | cons c l ih =>
  have hc:=hl c (List.mem_cons_self ..);have:=ih (rest k n+c) (fun e he=>hl e (List.mem_cons_of_mem _ he)) (rest_add k n c hc).1;refine⟨fun d hd=>?_,this.2⟩;rcases List.mem_cons.1 hd with h|h
  ·rw[h,Nat.div_lt_iff_lt_mul p];exact h1
  ·exact this.1 d h
theorem out3_lt (k f n:Nat)(h1:n<10*2^k):∀d∈out3 k f n,d<10:=by
 have p:0<2^k:=Nat.pow_pos (by decide);induction f generalizing n with
 | zero=>intro d h;cases h
 | succ f ih =>
  unfold out3;split
  ·intro d h;cases h
  ·intro d hd;rcases List.mem_cons.1 hd with h|h
   ·rw[h,Nat.div_lt_iff_lt_mul p];exact h1
   ·exact ih _ (rest_lt k n) d h
theorem fullR_head (k:Nat)(d:Nat)(r:List Nat)(h1:1≤k)(hk:k<61)(hd:d≠0)(h:∀e∈d :: r,e<10) :
  ∃e q,fullR k (d :: r)=e :: q∧e≠0∧(∀x∈fullR k (d :: r),x<10)∧1≤(pick k (d :: r) 0 0).2∧(pick k (d :: r) 0 0).2≤r.length+21∧((pick k (d :: r) 0 0).2=1→e<d):=by
 have p:0<2^k:=Nat.pow_pos (by decide);have P:=pick_ok k (d :: r) 0 0 hk h (.inr ⟨d,r,rfl,hd⟩) (by omega);have hp1:pick k (d :: r) 0 0=pick k r (0*10+d) (0+1):=by
  show(if 0 / 2^k=0 then _ else _)=_;rw[if_pos (Nat.zero_div _)]
 have hd10:=h d (List.mem_cons_self ..);have P2:=pick_ok k r (0*10+d) (0+1) hk (fun e he=>h e (List.mem_cons_of_mem _ he)) (.inl (by omega)) (by omega);have hr1:1≤(pick k (d :: r) 0 0).2:=by rw[hp1];omega
 have hone:(pick k (d :: r) 0 0).2=1→(pick k (d :: r) 0 0).1=d:=by
  rw[hp1];intro hr;have key:∀(l:List Nat) (n s:Nat),(pick k l n s).2=s→(pick k l n s).1=n:=by
   have kz:∀f n s,s≤(pickz k f n s).2∧((pickz k f n s).2=s→(pickz k f n s).1=n):=by
    intro f;induction f with
    | zero=>intro n s;exact⟨Nat.le_refl _,fun _=>rfl⟩
    | succ f ih =>
     intro n s;unfold pickz;split
     ·have:=(ih (n*10) (s+1)).1;exact⟨by omega,fun h=>by omega⟩
     ·exact⟨Nat.le_refl _,fun _=>rfl⟩
   have kl:∀(l:List Nat) n s,s≤(pick k l n s).2:=by
    intro l;induction l with
    | nil=>intro n s;exact(kz 20 n s).1
    | cons a l ih =>
     intro n s;unfold pick;split
     ·have:=ih (n*10+a) (s+1);omega
     ·exact Nat.le_refl _
   intro l;cases l with
   | nil=>intro n s;exact(kz 20 n s).2
   | cons a l =>
    intro n s;unfold pick;split
    ·have:=kl l (n*10+a) (s+1);intro h;omega
    ·intro _;rfl
  have:=key r (0*10+d) (0+1) hr;omega
 obtain⟨n,hn⟩:∃n,(pick k (d :: r) 0 0).1=n:=⟨_,rfl⟩
 obtain⟨j,hj⟩:∃j,(pick k (d :: r) 0 0).2=j:=⟨_,rfl⟩
 unfold fullR;clear hp1 P2;rw[hn,hj]at P
 rw[hn,hj]at hone
 rw[hj]at hr1
 rw[hn,hj];have hdl:∀e∈(d :: r).drop j,e<10:=fun e he=>h e (List.mem_of_mem_drop he)
 have O:=out2_lt k ((d :: r).drop j) n hdl P.2.1;have O3:=out3_lt k (k+2) _ O.2;have hq0:n / 2^k≠0:=by
  have:=Nat.div_pos P.1 p;omega
 have all:∀x∈out2 k n ((d :: r).drop j)++out3 k (k+2) (left2 k n ((d :: r).drop j)),x<10:=fun x hx=>by
  rcases List.mem_append.1 hx with g|g
  ·exact O.1 x g
  ·exact O3 x g
 have lt:j=1→n / 2^k<d:=fun hj1=>by
  have:=hone hj1;subst this;have two:2≤2^k:=by
   have:2^1≤2^k:=Nat.pow_le_pow_right (by decide) h1;omega
  exact Nat.div_lt_self (by omega) two
 have hjl:j≤r.length+21:=by have:=P.2.2.2;rw[List.length_cons]at this;omega
 cases hx:(d :: r).drop j with
 | nil =>
  rw[hx]at all
  have e3:out3 k (k+2) n=n / 2^k :: out3 k (k+1) (rest k n):=by
   show(if n=0 then _ else _)=_;rw[if_neg (by intro h0;rw[h0,Nat.zero_div]at hq0;exact hq0 rfl)]
  exact⟨n / 2^k,out3 k (k+1) (rest k n),by show []++out3 k (k+2) n=_;rw[List.nil_append,e3],hq0,all,hr1,hjl,lt⟩
 | cons c l =>
  rw[hx]at all
  exact⟨n / 2^k,_,rfl,hq0,all,hr1,hjl,lt⟩
theorem rsh_fine (k:Nat)(s:Dc)(h1:1≤k)(hk:k<61)(h:Fine s)(hn:1≤s.nd):Fine (rsh k s)∧1≤(rsh k s).nd∧(rsh k s).dp≤s.dp∧s.dp-820≤(rsh k s).dp∧((rsh k s).dp=s.dp→(rsh k s).top<s.top)∧(rsh k s).top<10:=by
 obtain⟨d,r,e1,e2,e3,e4,e5⟩:=fine_cons h hn;obtain⟨e,q,f1,f2,f3,f4,f5,f6⟩:=fullR_head k d r h1 hk e2 e4;obtain⟨g1,g2,g3,g4⟩:=fine_laid s (fullR k (d :: r)) h.len e q f1 f2 f3 (s.dp-((pick k (dgs s.D s.nd) 0 0).2-1)) (s.trunc||over 0 ((fullR k (dgs s.D s.nd)).map ch));have hL:rsh k s=trimD { s with D:=ow s.D 0 ((fullR k (d :: r)).map ch),nd:=min ((fullR k (d :: r)).map ch).length 800,dp:=s.dp-((pick k (dgs s.D s.nd) 0 0).2-1),trunc:=s.trunc||over 0 ((fullR k (dgs s.D s.nd)).map ch) }:=by
  unfold rsh rshD;rw[e1]
 have hle:=h.le;rw[hL];rw[e1]at g1 g2 g3 g4
 rw[e1];refine⟨g1,g2,by rw[g3];omega,by rw[g3];omega,?_,?_⟩
 ·rw[g3,g4,e3];intro h0;exact f6 (by omega)
 ·rw[g4];exact f3 e (by rw[f1];exact List.mem_cons_self ..)
end Go.Proofs.YtcfgbdhpcboikaaGreatDoor.Dec
