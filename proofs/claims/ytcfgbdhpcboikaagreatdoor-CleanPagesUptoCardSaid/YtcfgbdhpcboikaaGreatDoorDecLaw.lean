/-
Decimal digits shifted to the left: how many more come to stand in front (the slow decimals' leftShift). No program in sight.
-/
import Derived.Test.YtcfgbdhpcboikaaGreatDoorAa
namespace Go.Proofs.YtcfgbdhpcboikaaGreatDoor.Dec
def val:List Nat->Nat
 | []=>0
 | d :: r=>d*10^r.length+val r
theorem val_lt (l:List Nat)(h:∀d∈l,d<10):val l<10^l.length:=by
 induction l with|nil=>decide|cons d r ih=>{have c:=ih fun e b=>h e (ew _ b);have f:=h d (eh ..);have a:(d+1)*10^r.length<=10*10^r.length:=au _ (by omega);show d*10^r.length+val r<10^(r.length+1);rw[bz,bo (10^r.length) 10];rw[bb,da]at a;omega}
theorem val_ge (d:Nat)(r:List Nat)(h:d≠0):10^r.length<=val (d :: r):=by
 show 10^r.length<=d*10^r.length+val r;have:1*10^r.length<=d*10^r.length:=au _ (by omega);omega
def less:List Nat->List Nat->Bool
 | _,[]=>false
 | [],_ :: _=>true
 | b :: bs,s :: ss=>if b=s then less bs ss else decide (b<s)
def Ends:List Nat->Prop
 | []=>True
 | [d]=>d≠0
 | _ :: r=>Ends r
theorem ends_tail (d:Nat)(r:List Nat)(h:Ends (d :: r)):Ends r:=by
 cases r with|nil=>trivial|cons e r=>exact h
theorem ends_pos (d:Nat)(r:List Nat)(h:Ends (d :: r)):0<val (d :: r):=by
 induction r generalizing d with|nil=>{have:d≠0:=h;show 0<d*1+0;omega}|cons e r ih=>{have:=ih e h;show 0<d*10^(e :: r).length+val (e :: r);omega}
theorem less_iff (b s:List Nat)(g:∀d∈b,d<10)(j:∀d∈s,d<10)(i:Ends s):less b s=true↔val b*10^s.length<val s*10^b.length:=by
 induction b generalizing s with|nil=>{cases s with|nil=>simp[less,val]|cons e s=>{have:=ends_pos e s i;simp only[less,val,cu,fg,du,i8,true_iff];exact this}}|cons d b ih=>{cases s with|nil=>simp[less,val]|cons e s=>{have m:=val_lt b fun x hx=>g x (ew _ hx);have o:=val_lt s fun x hx=>j x (ew _ hx);have c:=ih s (fun x hx=>g x (ew _ hx)) (fun x hx=>j x (ew _ hx)) (ends_tail e s i);show(if d=e then less b s else decide (d<e))=true↔(d*10^b.length+val b)*10^(s.length+1)<(e*10^s.length+val s)*10^(b.length+1);have f:val b*10^s.length<10^b.length*10^s.length:=d7 m (b7 (by decide));have a:val s*10^b.length<10^s.length*10^b.length:=d7 o (b7 (by decide));rw[bo (10^s.length) (10^b.length)]at a;have k:(d*10^b.length+val b)*10^(s.length+1)=(d*(10^b.length*10^s.length)+val b*10^s.length)*10:=by{rw[bz,<-af,bb,af]};have l:(e*10^s.length+val s)*10^(b.length+1)=(e*(10^b.length*10^s.length)+val s*10^b.length)*10:=by{rw[bz,<-af,bb,af,bo (10^s.length) (10^b.length)]};rw[k,l];generalize 10^b.length*10^s.length=P at f a ⊢;generalize val b*10^s.length=X at f c ⊢;generalize val s*10^b.length=Y' at a c ⊢;by_cases h:d=e;{rw[ae h,c,h];omega};{rw[ac h,decide_eq_true_iff];by_cases n:d<e;{have:(d+1)*P<=e*P:=au _ n;rw[bb,da]at this;omega};{have:(e+1)*P<=d*P:=au _ (by omega);rw[bb,da]at this;omega}}}}
theorem shifted (D nd k L:Nat)(m:10^(nd-1)<=D)(n:D<10^nd)(u:1<=nd)(o:10^(L-1)<=5^k)(p:5^k<10^L)(s:1<=L)(t:L<=k) :
  (D*10^L<5^k*10^nd->10^(nd+(k+1-L)-2)<=D*2^k/\D*2^k<10^(nd+(k+1-L)-1))
  /\ (¬D*10^L<5^k*10^nd->10^(nd+(k+1-L)-1)<=D*2^k/\D*2^k<10^(nd+(k+1-L))):=by
 have c:0<5^k:=b7 (by decide);have b:D*2^k*5^k=D*10^k:=by{rw[af,<-Nat.mul_pow]};have l:10^k=10^L*10^(k-L):=by{rw[<-ap];congr 1;omega};have r:0<10^(k-L):=b7 (by decide);have mid:D*10^L<5^k*10^nd↔D*2^k<10^(nd+(k+1-L)-1):=by{have d:D*10^L<5^k*10^nd↔D*10^L*10^(k-L)<5^k*10^nd*10^(k-L):=(ul r).symm;have a2:D*10^L*10^(k-L)=D*2^k*5^k:=by{rw[b,af,<-l]};have e:5^k*10^nd*10^(k-L)=10^(nd+(k+1-L)-1)*5^k:=by{rw[af,<-ap,bo];congr 2;omega};rw[d,a2,e];exact ul c};have low:10^(nd+(k+1-L)-2)<=D*2^k:=by{refine dv ?_ c;rw[b];have f:10^(nd+(k+1-L)-2)*5^k<=10^(nd+(k+1-L)-2)*10^L:=fm _ (b9 p);have i:10^(nd+(k+1-L)-2)*10^L=10^(nd-1)*10^k:=by{rw[<-ap,<-ap];congr 1;omega};have j:10^(nd-1)*10^k<=D*10^k:=au _ m;omega};have q:D*2^k<10^(nd+(k+1-L)):=by{refine gq (a:=5^k) ?_;rw[b];have f:10^(nd+(k+1-L))*10^(L-1)<=10^(nd+(k+1-L))*5^k:=fm _ o;have i:10^(nd+(k+1-L))*10^(L-1)=10^nd*10^k:=by{rw[<-ap,<-ap];congr 1;omega};have j:D*10^k<10^nd*10^k:=d7 n (b7 (by decide));omega};exact⟨fun h=>⟨low,mid.mp h⟩,fun h=>⟨fo fun g=>h (mid.mpr g),q⟩⟩
def carry (k:Nat):List Nat->Nat
 | []=>0
 | d :: r=>(carry k r+d*2^k) / 10
theorem carry_eq (k:Nat)(l:List Nat):carry k l=val l*2^k / 10^l.length:=by
 induction l with|nil=>simp[carry,val]|cons d r ih=>{show(carry k r+d*2^k) / 10=(d*10^r.length+val r)*2^k / 10^(r.length+1);rw[ih,bz,<-rk];congr 1;have p:0<10^r.length:=b7 (by decide);have e:(d*10^r.length+val r)*2^k=val r*2^k+d*2^k*10^r.length:=by{rw[bb,ju,af,bo (10^r.length),<-af]};rw[e,Nat.add_mul_div_right _ _ p]}
def steps:Nat->Nat->Nat
 | 0,_=>0
 | f+1,n=>if n=0 then 0 else 1+steps f (n / 10)
theorem steps_eq (f n j:Nat)(d:n<10^f)(b:10^j<=n*10)(c:n<10^j):steps f n=j:=by
 induction f generalizing n j with|zero=>{have a:n=0:=by{simpa using d};subst a;have p:0<10^j:=b7 (by decide);omega}|succ f ih=>{show(if n=0 then 0 else 1+steps f (n / 10))=j;by_cases a:n=0;{have p:0<10^j:=b7 (by decide);subst a;omega};{rw[ac a];cases j with|zero=>{exact absurd c (by simp;omega)}|succ j=>{rw[bz]at d b c;by_cases e:n / 10=0;{have:j=0:=by{cases j with|zero=>rfl|succ j=>{rw[bz]at b;have p:0<10^j:=b7 (by decide);omega}};subst this;rw[e];cases f with|zero=>rfl|succ f=>rfl};{have hd:10^j<=n / 10*10:=by{cases j with|zero=>{simp only[fg]at *;omega}|succ j=>{rw[bz]at b ⊢;omega}};rw[ih (n / 10) j (by omega) hd (by omega)];omega}}}}
theorem front (l:List Nat)(k L f:Nat)(hd:∀d∈l,d<10)(n:l.head?≠some 0)(b:l≠[])(o:10^(L-1)<=5^k)(p:5^k<10^L)(q:1<=L)(y:L<=k)(c:List Nat)(s:∀d∈c,d<10)(t:Ends c)
  (u:c.length=L) (v:val c=5^k) (w:carry k l<10^f):steps f (carry k l)=(if less l c=true then k-L else k+1-L):=by
 have z:1<=l.length:=by{cases l with|nil=>exact absurd rfl b|cons d r=>simp};have x:10^(l.length-1)<=val l:=by{cases l with|nil=>exact absurd rfl b|cons d r=>{exact val_ge d r (fun e=>n (by rw[e];rfl))}};have S:=shifted (val l) l.length k L x (val_lt l hd) z o p q y;have hi:=less_iff l c hd s t;rw[u,v]at hi;have pn:0<10^l.length:=b7 (by decide);have i:∀j,10^(l.length+j-1)<=val l*2^k->val l*2^k<10^(l.length+j)->steps f (carry k l)=j:=fun j m a=>by{cases j with|zero=>{have e:carry k l=0:=by{rw[carry_eq];exact mc a};rw[e];cases f with|zero=>rfl|succ f=>rfl}|succ j=>{refine steps_eq f _ (j+1) w ?_ ?_;{rw[carry_eq];have:10^j<=val l*2^k / 10^l.length:=by{rw[pf pn,<-ap];refine bg (k9 ?_) m;congr 1;omega};rw[bz];omega};{rw[carry_eq,la pn,<-ap];rw[ju (j+1)];exact a}}};by_cases h:less l c=true;{rw[ae h];have:=S.1 (hi.mp h);refine i _ ?_ ?_;{refine bg (k9 ?_) this.1;congr 1;omega};{refine Nat.lt_of_lt_of_eq this.2 ?_;congr 1;omega}};{rw[ac h];have:=S.2 (fun g=>h (hi.mpr g));refine i _ ?_ ?_;{refine bg (k9 ?_) this.1;congr 1};{refine Nat.lt_of_lt_of_eq this.2 ?_;congr 1}}
def digs:Nat->Nat->List Nat->List Nat
 | 0,_,t=>t
 | f+1,n,t=>if n=0 then t else digs f (n / 10) (n%10 :: t)
theorem ends_last (l:List Nat)(h:l.getLast?≠some 0):Ends l:=by
 induction l with|nil=>trivial|cons d r ih=>{cases r with|nil=>{exact fun e=>h (by rw[e];rfl)}|cons e r=>exact ih (by simpa using h)}
def cut (k:Nat):List Nat:=digs 50 (5^k) []
def more (k:Nat):Nat:=k+1-(cut k).length
theorem cuts:∀k<61,k≠0->(∀d∈cut k,d<10)/\(cut k).getLast?≠some 0/\val (cut k)=5^k/\10^((cut k).length-1)<=5^k/\5^k<10^(cut k).length/\1<=(cut k).length/\(cut k).length<=k:=by decide +kernel
theorem front_table (l:List Nat)(k f:Nat)(n:k<61)(j:k≠0)(hd:∀d∈l,d<10)(h:l.head?≠some 0)(o:l≠[])(m:carry k l<10^f) :
  steps f (carry k l)=(if less l (cut k)=true then more k-1 else more k):=by
 obtain⟨a,b,c,d,e,g,i⟩:=cuts k n j;rw[front l k (cut k).length f hd h o d e g i (cut k) a (ends_last _ b) rfl c m];unfold more;split;{omega};{rfl}
def rest (k n:Nat):Nat:=n%2^k*10
def restN (k:Nat):Nat->Nat->Nat
 | 0,n=>n
 | i+1,n=>restN k i (rest k n)
theorem rest_lt (k n:Nat):rest k n<10*2^k:=by
 have:=gn n (b7 (n:=k) (by decide:0<2));unfold rest;omega
theorem rest_add (k n c:Nat)(b:c<10):rest k n+c<10*2^k/\(rest k n+c) / 2^k<10:=by
 have h:=gn n (b7 (n:=k) (by decide:0<2));have a:rest k n+c<10*2^k:=by{unfold rest;omega};exact⟨a,(la (b7 (by decide))).mpr a⟩
theorem first_add (k n c:Nat)(b:n / 2^k=0)(a:c<10):n*10+c<10*2^k:=by
 have h:n<2^k:=by{rcases ak n (2^k)with h|h;{exact h};{have:=po h (b7 (by decide));omega}};omega
theorem rest_dvd (k n j:Nat)(a:j<k)(h:2^j∣n):2^(j+1)∣rest k n:=by
 unfold rest;rw[bz];refine Nat.mul_dvd_mul ?_ (by decide);exact(Nat.dvd_mod_iff (Nat.pow_dvd_pow 2 (b9 a))).mpr h
theorem rest_ends (k n j:Nat)(a:j<=k)(h:2^j∣n):restN k (k-j+1) n=0:=by
 induction hi:k-j generalizing n j with|zero=>{have e:j=k:=by{omega};subst e;show rest j n=0;unfold rest;rw[Nat.mod_eq_zero_of_dvd h]}|succ i ih=>{show restN k (i+1) (rest k n)=0;exact ih (rest k n) (j+1) (by omega) (rest_dvd k n j (by omega) h) (by omega)}
theorem rest_all (k n:Nat):restN k (k+1) n=0:=rest_ends k n 0 (ax _) (Nat.one_dvd _)
theorem carry_lt (k:Nat)(l:List Nat)(h:∀d∈l,d<10):carry k l<2^k:=by
 have p:0<2^k:=b7 (by decide);induction l with|nil=>exact p|cons d r ih=>{have b:=ih fun e a=>h e (ew _ a);have c:d*2^k<=9*2^k:=au _ (by have:=h d (eh ..);omega);show(carry k r+d*2^k) / 10<2^k;omega}
theorem carry_add_lt (k d:Nat)(l:List Nat)(h:∀d∈l,d<10)(hd:d<10):carry k l+d*2^k<10*2^k:=by
 have a:=carry_lt k l h;have b:d*2^k<=9*2^k:=au _ (by omega);omega
def lows (k:Nat):List Nat->List Nat
 | []=>[]
 | d :: r=>(carry k r+d*2^k)%10 :: lows k r
theorem lows_len (k:Nat)(l:List Nat):(lows k l).length=l.length:=by
 induction l with|nil=>rfl|cons d r ih=>simp[lows,ih]
theorem lows_val (k:Nat)(l:List Nat):val l*2^k=carry k l*10^l.length+val (lows k l):=by
 induction l with|nil=>simp[val,carry,lows]|cons d r ih=>{show(d*10^r.length+val r)*2^k=(carry k r+d*2^k) / 10*10^(r.length+1)+((carry k r+d*2^k)%10*10^(lows k r).length+val (lows k r));rw[lows_len];have a:(d*10^r.length+val r)*2^k=d*2^k*10^r.length+val r*2^k:=by{rw[bb,af,bo (10^r.length),<-af]};have b:(carry k r+d*2^k) / 10*10^(r.length+1)+(carry k r+d*2^k)%10*10^r.length=(carry k r+d*2^k)*10^r.length:=by{rw[bz,bo (10^r.length) 10,<-af,<-bb];congr 1;omega};rw[bb (carry k r)]at b;rw[a,ih];omega}
theorem lows_lt (k:Nat)(l:List Nat):∀d∈lows k l,d<10:=by
 induction l with|nil=>{intro d h;cases h}|cons e r ih=>{intro d h;rcases List.mem_cons.mp h with h|h;{rw[h];exact gn _ (by decide)};{exact ih d h}}
end Go.Proofs.YtcfgbdhpcboikaaGreatDoor.Dec
namespace Go.Proofs.YtcfgbdhpcboikaaGreatDoor.Dec
def ch (d:Nat):UInt8:=UInt8.ofNat (d+48)
def un (c:UInt8):Nat:=c.toNat-48
theorem ch_nat (d:Nat)(h:d<10):(ch d).toNat=d+48:=by
 unfold ch;rw[UInt8.toNat_ofNat'];omega
theorem un_ch (d:Nat)(h:d<10):un (ch d)=d:=by unfold un;rw[ch_nat d h];omega
def dgs (D:U)(n:Nat):List Nat:=(D.take n).map un
def ow (D:U)(w:Nat)(xs:U):U:=D.take w++(xs.take (800-w)++D.drop (w+xs.length))
theorem ow_get (D:U)(w:Nat)(a:U)(e:D.length=800)(i:Nat) :
  (ow D w a)[i]?=if i<w then D[i]? else if i<w+a.length/\i<800 then a[i-w]? else D[i]?:=by
 unfold ow;rw[jv,br];by_cases b:i<w;{rw[ae b];by_cases d:i<800;{rw[ae (by omega),gg,ae b]};{rw[ac (by omega),jv,br];rw[fi (l:=D) (by omega)];rw[ac (by omega)];exact fi (by rw[bn];omega)}};{rw[ac b];by_cases c:i<w+a.length/\i<800;{rw[ae c,ac (by omega),jv,br,ae (by omega),gg,ae (by omega)];congr 1;omega};{rw[ac c];by_cases d:i<800;{rw[ac (by omega),jv,br,ac (by omega),kx];congr 1;omega};{rw[fi (l:=D) (by omega)];rw[ac (by omega),jv,br,ac (by omega)];exact fi (by rw[bn];omega)}}}
theorem ow_len (D:U)(w:Nat)(a:U)(b:D.length=800):(ow D w a).length=800:=by
 unfold ow;rw[aw,aw,br,br,bn];omega
theorem ow_nil (D:U)(w:Nat):ow D w []=D:=by simp[ow]
theorem ow_set (D:U)(w:Nat)(d:U)(c:UInt8)(b:D.length=800)(f:w<800):(ow D (w+1) d).set w c=ow D w (c :: d):=by
 apply l6;intro i;rw[List.getElem?_set,ow_get D _ _ b,ow_get D _ _ b,ow_len D _ _ b,bw];by_cases h:w=i;{subst h;rw[ae rfl,ae f,ac (by omega),ae ⟨by omega,f⟩];simp};{rw[ac h];by_cases e:i<w;{rw[ae (by omega),ae e]};{rw[ac (by omega),ac e];by_cases a:i<w+1+d.length/\i<800;{rw[ae a,ae ⟨by omega,a.2⟩,show i-w=(i-(w+1))+1 by omega,ni]};{rw[ac a,ac (by omega)]}}}
theorem ow_out (D:U)(w:Nat)(a:U)(c:UInt8)(b:D.length=800)(d:800<=w):ow D (w+1) a=ow D w (c :: a):=by
 apply l6;intro i;rw[ow_get D _ _ b,ow_get D _ _ b];by_cases h:i<800;{rw[ae (by omega),ae (by omega)]};{have:D[i]?=none:=fi (by omega);rw[this];have e:∀(p:Prop) [Decidable p],(if p then (none:Option UInt8)else none)=none:=fun p _=>by{split<;>rfl};rw[ac (c:=i<w+1+a.length/\i<800) (fun g=>h g.2),ac (c:=i<w+(c :: a).length/\i<800) (fun g=>h g.2),e,e]}
theorem ow_snoc (D:U)(a:U)(c:UInt8)(d:D.length=800)(e:a.length<800):(ow D 0 a).set a.length c=ow D 0 (a++[c]):=by
 apply l6;intro i;rw[List.getElem?_set,ow_get D _ _ d,ow_get D _ _ d,ow_len D _ _ d,aw];by_cases h:a.length=i;{subst h;rw[ae rfl,ae e,ac (by omega),ae ⟨by simp,e⟩];simp};{have z:¬i<0:=by{omega};rw[ac h,ac z,ac z];by_cases b:i<0+a.length/\i<800;{rw[ae b,ae ⟨by omega,b.2⟩,jv,ae (by omega)]};{rw[ac b,ac (by simp;omega)]}}
theorem ow_full (D:U)(a:U)(c:UInt8)(d:800<=a.length)(b:D.length=800):ow D 0 a=ow D 0 (a++[c]):=by
 unfold ow;rw[pe (by omega),@d6 _ D _ (by omega),@d6 _ D _ (by rw[aw];omega)]
def over (w:Nat)(xs:U):Bool:=(xs.drop (800-w)).any (· != 48)
theorem over_in (w:Nat)(xs:U)(c:UInt8)(a:w<800):over w (c :: xs)=over (w+1) xs:=by
 unfold over;rw[show 800-w=(800-(w+1))+1 by omega,dj]
theorem over_out (w:Nat)(a:U)(c:UInt8)(b:800<=w):over w (c :: a)=(c !=48||over (w+1) a):=by
 unfold over;rw[show 800-w=0 by omega,show 800-(w+1)=0 by omega];simp
theorem over_nil (w:Nat):over w []=false:=by simp[over]
theorem over_snoc_in (xs:U)(c:UInt8)(h:xs.length<800):over 0 (xs++[c])=over 0 xs:=by
 unfold over;rw[d6 (by rw[aw];simp;omega),d6 (by omega)]
theorem over_snoc_out (a:U)(c:UInt8)(h:800<=a.length):over 0 (a++[c])=(over 0 a||c !=48):=by
 unfold over;rw[uo (by omega),List.any_append];simp
def trimL (l:U):Nat:=(l.reverse.dropWhile (· == 48)).length
theorem trimL_le (l:U):trimL l<=l.length:=by
 unfold trimL;have:∀(r:U),(r.dropWhile (· == 48)).length<=r.length:=by{intro r;induction r with|nil=>simp|cons a r ih=>{rw[me];split<;>simp<;>omega}};have:=this l.reverse;simpa using this
theorem trimL_snoc (l:U)(c:UInt8):trimL (l++[c])=if c=48 then trimL l else l.length+1:=by
 unfold trimL;rw[rl,uq,lc,me];by_cases h:c=48;{simp[h]};{simp[h]}
theorem trimL_take (D:U)(k:Nat)(c:UInt8)(h:D[k]?=some c)(a:c=48):trimL (D.take (k+1))=trimL (D.take k):=by
 rw[ro,h,Option.toList_some,trimL_snoc,ae a]
theorem trimL_stop (D:U)(k:Nat)(c:UInt8)(h:D[k]?=some c)(a:c≠48):trimL (D.take (k+1))=k+1:=by
 have b:k<D.length:=(fc.1 h).1;rw[ro,h,Option.toList_some,trimL_snoc,ac a,br];omega
theorem trimL_pos (l:U)(c:UInt8)(h:l.head?=some c)(d:c≠48):1<=trimL l:=by
 cases l with|nil=>cases h|cons a r=>{have e:a=c:=by{simpa using h};subst e;unfold trimL;rw[pp];have:∀(q:U),1<=((q++[a]).dropWhile (· == 48)).length:=by{intro q;induction q with|nil=>{rw[en,me,ac (by simpa using d)];simp}|cons b q ih=>{rw[dh,me];split<;>first|exact ih|simp}};exact this _}
structure Dc where
 D:U
 nd:Nat
 dp:Int
 neg:Bool
 trunc:Bool
structure Fine (s:Dc):Prop where
 len:s.D.length=800
 le:s.nd<=800
 dig:∀c∈s.D.take s.nd,48<=c.toNat/\c.toNat<=57
 head:∀c,(s.D.take s.nd).head?=some c->c≠48
def Dc.top (s:Dc):Nat:=un (s.D.headD 48)
def trimD (s:Dc):Dc:={ s with nd:=trimL (s.D.take s.nd),dp:=if trimL (s.D.take s.nd)=0 then 0 else s.dp }
def fullN (k:Nat)(ds:List Nat):List Nat:=digs 25 (carry k ds) (lows k ds)
def fullL (k:Nat)(ds:List Nat):U:=(fullN k ds).map ch
theorem digs_len (f n:Nat)(t:List Nat):(digs f n t).length=steps f n+t.length:=by
 induction f generalizing n t with|zero=>simp[digs,steps]|succ f ih=>{unfold digs steps;split;{simp};{rw[ih,bw];omega}}
theorem digs_lt (f n:Nat)(t:List Nat)(h:∀d∈t,d<10):∀d∈digs f n t,d<10:=by
 induction f generalizing n t with|zero=>exact h|succ f ih=>{unfold digs;split;{exact h};{refine ih _ _ fun d hd=>?_;rcases ce.1 hd with a|a;{rw[a];exact gn _ (by decide)};{exact h d a}}}
theorem digs_head (f n:Nat)(t:List Nat)(a:n<10^f)(b:n≠0):∃d r,digs f n t=d :: r/\d≠0:=by
 induction f generalizing n t with|zero=>exact absurd (by simpa using a) b|succ f ih=>{unfold digs;rw[ac b];by_cases h:n / 10=0;{rw[h];have c:∀g (l:List Nat),digs g 0 l=l:=by{intro g l;cases g<;>simp[digs]};rw[c];exact⟨_,_,rfl,by omega⟩};{exact ih _ _ (by rw[bz]at a;omega) h}}
theorem carry_25 (k:Nat)(a:List Nat)(f:k<61)(h:∀d∈a,d<10):carry k a<10^25:=by
 have b:=carry_lt k a h;have c:2^k<=2^60:=cc (by decide) (by omega);have e:(2:Nat)^60<10^25:=by{decide};omega
theorem val_top (d:Nat)(r:List Nat)(h:∀e∈d :: r,e<10):val (d :: r) / 10^r.length=d:=by
 have a:=val_lt r fun e b=>h e (ew _ b);show(d*10^r.length+val r) / 10^r.length=d;rw[bo,Nat.mul_add_div (b7 (by decide)),mc a];omega
theorem fullN_head (k:Nat)(d:Nat)(r:List Nat)(n:1<=k)(u:k<61)(hd:d≠0)(h:∀e∈d :: r,e<10) :
  ∃e q,fullN k (d :: r)=e :: q/\e≠0/\(steps 25 (carry k (d :: r))=0->d<e):=by
 have l:=carry_25 k (d :: r) u h;by_cases a:carry k (d :: r)=0
 ·have m:fullN k (d :: r)=lows k (d :: r):=by{unfold fullN;rw[a];rfl};have f:=lows_val k (d :: r);rw[a,i8,be]at f
  have b:=lows_len k (d :: r);have j:=lows_lt k (d :: r);rw[m];cases hx:lows k (d :: r)with
  | nil=>rw[hx]at b;simp at b
  | cons e q =>
   rw[hx]at f b j
   have hq:q.length=r.length:=by simpa using b
   have t:=val_top e q j;have w:=val_ge d r hd;have p:0<10^r.length:=b7 (by decide);have two:2<=2^k:=by
    have:2^1<=2^k:=cc (by decide) n;omega
   have c:d*10^r.length<=val (d :: r):=by show _<=d*10^r.length+val r;omega
   have s:(2*d)*10^r.length<=val (e :: q):=by
    rw[<-f]
    calc (2*d)*10^r.length=d*10^r.length*2:=by rw[af,bo]
     _<=val (d :: r)*2^k:=ia c two
   have v:2*d<=e:=by
    rw[<-t,hq,pf p];exact s
   exact⟨e,q,rfl,by omega,fun _=>by omega⟩
 ·obtain⟨e,q,o,c⟩:=digs_head 25 (carry k (d :: r)) (lows k (d :: r)) l a;refine⟨e,q,o,c,fun i=>absurd ?_ a⟩;have:steps 25 (carry k (d :: r))=if carry k (d :: r)=0 then 0 else 1+steps 24 (carry k (d :: r) / 10):=rfl
  rw[this]at i;by_cases g:carry k (d :: r)=0;{exact g};{rw[ac g]at i;omega}
def lshD (k:Nat)(s:Dc):Dc :=
 { s with D:=ow s.D 0 (fullL k (dgs s.D s.nd)),nd:=min (fullL k (dgs s.D s.nd)).length 800,dp:=s.dp+((fullL k (dgs s.D s.nd)).length-s.nd:Nat),trunc:=s.trunc||over 0 (fullL k (dgs s.D s.nd)) }
def lsh (k:Nat)(s:Dc):Dc:=trimD (lshD k s)
theorem fine_cons {s:Dc}(h:Fine s)(o:1<=s.nd):∃d r,dgs s.D s.nd=d :: r/\d≠0/\s.top=d/\(∀e∈d :: r,e<10)/\r.length+1=s.nd:=by
 obtain⟨l,m,g,i⟩:=h;have a:(s.D.take s.nd).length=s.nd:=by{rw[br];omega};cases hx:s.D.take s.nd with|nil=>{rw[hx]at a;simp at a;omega}|cons c q=>{rw[hx]at g i a;have k:=i c rfl;have n:=g c (eh ..);refine⟨un c,q.map un,by unfold dgs;rw[hx];rfl,?_,?_,?_,by rw[dw];simpa using a⟩;{intro e;apply k;apply dx.1;show _=48;unfold un at e;omega};{have e:s.D.headD 48=c:=by{have:=jt s.nd s.D;rw[hx]at this;rw[<-this];rfl};unfold Dc.top;rw[e]};{intro e j;rw[<-co (f:=un)]at j;obtain⟨b,hb',rfl⟩:=ik.1 j;have:=g b hb';unfold un;omega}}
theorem fine_laid (s:Dc)(a:List Nat)(j:s.D.length=800)(e:Nat)(q:List Nat)(hx:a=e :: q)(x:e≠0)(hd:∀d∈a,d<10)(dp:Int)(tr:Bool) :
  Fine (trimD { s with D:=ow s.D 0 (a.map ch),nd:=min (a.map ch).length 800,dp:=dp,trunc:=tr }) /\
  1<=(trimD { s with D:=ow s.D 0 (a.map ch),nd:=min (a.map ch).length 800,dp:=dp,trunc:=tr }).nd /\
  (trimD { s with D:=ow s.D 0 (a.map ch),nd:=min (a.map ch).length 800,dp:=dp,trunc:=tr }).dp=dp /\
  (trimD { s with D:=ow s.D 0 (a.map ch),nd:=min (a.map ch).length 800,dp:=dp,trunc:=tr }).top=e:=by
 have hlen:(ow s.D 0 (a.map ch)).length=800:=ow_len _ _ _ j;have n:(ow s.D 0 (a.map ch)).take (min (a.map ch).length 800)=(a.map ch).take 800:=by
  apply l6;intro i;rw[gg,gg,ow_get _ _ _ j];by_cases b:i<min (a.map ch).length 800
  ·rw[ae b,ac (by omega),ae ⟨by omega,by omega⟩,ae (by omega)];rfl
  ·rw[ac b];by_cases k:i<800
   ·rw[ae k];exact(fi (by omega)).symm
   ·rw[ac k]
 have r:((a.map ch).take 800).head?=some (ch e):=by rw[hx];rfl
 have l:e<10:=hd e (by rw[hx];exact eh ..);have m:ch e≠48:=by
  intro h;have:=az UInt8.toNat h;rw[ch_nat e l]at this
  have w:(48:UInt8).toNat=48:=rfl;omega
 have v:=trimL_pos _ _ r m;have t:=trimL_le ((a.map ch).take 800);have y:((a.map ch).take 800).length<=800:=by rw[br];omega
 unfold trimD;simp only[n];refine⟨⟨hlen,by show trimL _<=800;omega,?_,?_⟩,v,by show(if _ then _ else _)=_;rw[ac (by omega)],?_⟩
 ·intro c g;have o:c∈a.map ch:=by
   have b:c∈(ow s.D 0 (a.map ch)).take (min (a.map ch).length 800):=by
    refine ji (i:=trimL ((a.map ch).take 800)) ?_;rw[List.take_take];have u:min (trimL ((a.map ch).take 800)) (min (a.map ch).length 800)=trimL ((a.map ch).take 800):=by
     rw[br]at t
     omega
    rw[u];exact g
   rw[n]at b
   exact ji b
  obtain⟨d,p,rfl⟩:=ik.1 o;have:=hd d p;rw[ch_nat d this];omega
 ·intro c g;have f:(ow s.D 0 (a.map ch)).head?=some (ch e):=by
   rw[rp,ow_get _ _ _ j,ac (by omega),ae ⟨by rw[hx];simp,by omega⟩,hx];rfl
  have b:((ow s.D 0 (a.map ch)).take (trimL ((a.map ch).take 800))).head?=(ow s.D 0 (a.map ch)).head?:=by
   rw[List.head?_take,ac (by omega)]
  have:c=ch e:=by
   rw[b,f]at g
   exact(b8 g).symm
  rw[this];exact m
 ·unfold Dc.top;have f:(ow s.D 0 (a.map ch)).headD 48=ch e:=by
   have f:(ow s.D 0 (a.map ch)).head?=some (ch e):=by
    rw[rp,ow_get _ _ _ j,ac (by omega),ae ⟨by rw[hx];simp,by omega⟩,hx];rfl
   rw[List.headD_eq_head?_getD,f];rfl
  show un ((ow s.D 0 (a.map ch)).headD 48)=e;rw[f,un_ch e l]
theorem fullN_len (k:Nat)(a:List Nat):(fullN k a).length=steps 25 (carry k a)+a.length:=by
 unfold fullN;rw[digs_len,lows_len]
theorem lsh_fine (k:Nat)(s:Dc)(u:1<=k)(w:k<61)(h:Fine s)(z:1<=s.nd):Fine (lsh k s)/\1<=(lsh k s).nd/\s.dp<=(lsh k s).dp/\(lsh k s).dp<=s.dp+25/\((lsh k s).dp=s.dp->s.top<(lsh k s).top)/\(lsh k s).top<10:=by
 obtain⟨d,r,b,l,e3,e4,e5⟩:=fine_cons h z;obtain⟨e,q,c,m,o⟩:=fullN_head k d r u w l e4;have j:∀x∈fullN k (d :: r),x<10:=digs_lt _ _ _ (lows_lt k _);have y:=fullN_len k (d :: r);have B:steps 25 (carry k (d :: r))<=25:=by{have:∀f n,steps f n<=f:=by{intro f;induction f with|zero=>{intro n;simp[steps]}|succ f ih=>{intro n;unfold steps;split<;>first|omega|(have:=ih (n / 10);omega)}};exact this 25 _};obtain⟨p,t,a,g⟩:=fine_laid s (fullN k (d :: r)) h.len e q c m j (s.dp+((fullL k (dgs s.D s.nd)).length-s.nd:Nat)) (s.trunc||over 0 (fullL k (dgs s.D s.nd)));have v:lsh k s=trimD { s with D:=ow s.D 0 ((fullN k (d :: r)).map ch),nd:=min ((fullN k (d :: r)).map ch).length 800,dp:=s.dp+((fullL k (dgs s.D s.nd)).length-s.nd:Nat),trunc:=s.trunc||over 0 (fullL k (dgs s.D s.nd)) }:=by{unfold lsh lshD fullL;rw[b]};rw[v];have i:(fullL k (dgs s.D s.nd)).length-s.nd=steps 25 (carry k (d :: r)):=by{unfold fullL;rw[dw,b,y,bw];omega};refine⟨p,t,by rw[a];omega,by rw[a,i];omega,?_,?_⟩;{rw[a,g,i,e3];intro A;exact o (by omega)};{rw[g];exact j e (by rw[c];exact eh ..)}
def pickz (k:Nat):Nat->Nat->Nat->Nat × Nat
 | 0,n,r=>(n,r)
 | f+1,n,r=>if n / 2^k=0 then pickz k f (n*10) (r+1)else (n,r)
theorem pickZ {α:Type}{a:α}{r:List α}:(a::r)[0]?=some a:=nj
theorem pickS {α:Type}{a:α}{r:List α}{i:Nat}:(a::r)[i+1]?=r[i]?:=ni
theorem pickG {α:Type}{a b:α}:(some a).getD b=a:=mf
def pick (k:Nat):List Nat->Nat->Nat->Nat × Nat
 | [],n,r=>pickz k 20 n r
 | d :: l,n,r=>if n / 2^k=0 then pick k l (n*10+d) (r+1)else (n,r)
def out2 (k:Nat):Nat->List Nat->List Nat
 | _,[]=>[]
 | n,c :: l=>n / 2^k :: out2 k (rest k n+c) l
def left2 (k:Nat):Nat->List Nat->Nat
 | n,[]=>n
 | n,c :: l=>left2 k (rest k n+c) l
def out3 (k:Nat):Nat->Nat->List Nat
 | 0,_=>[]
 | f+1,n=>if n=0 then []else n / 2^k :: out3 k f (rest k n)
def fullR (k:Nat)(ds:List Nat):List Nat :=
 out2 k (pick k ds 0 0).1 (ds.drop (pick k ds 0 0).2)++out3 k (k+2) (left2 k (pick k ds 0 0).1 (ds.drop (pick k ds 0 0).2))
def rshD (k:Nat)(s:Dc):Dc :=
 { s with D:=ow s.D 0 ((fullR k (dgs s.D s.nd)).map ch),nd:=min ((fullR k (dgs s.D s.nd)).map ch).length 800,dp:=s.dp-((pick k (dgs s.D s.nd) 0 0).2-1),trunc:=s.trunc||over 0 ((fullR k (dgs s.D s.nd)).map ch) }
def rsh (k:Nat)(s:Dc):Dc:=trimD (rshD k s)
theorem pickz_ok (k f n r:Nat)(a:2^k<=n*10^f)(b:n<10*2^k):2^k<=(pickz k f n r).1/\(pickz k f n r).1<10*2^k/\r<=(pickz k f n r).2/\(pickz k f n r).2<=r+f:=by
 have p:0<2^k:=b7 (by decide);induction f generalizing n r with|zero=>exact⟨by simpa [pickz]using a,b,ag _,ag _⟩|succ f ih=>{unfold pickz;split;{rename_i h;have c:=first_add k n 0 h (by decide);have:=ih (n*10) (r+1) (by rw[af,<-Nat.pow_succ'];exact a) (by omega);exact⟨this.1,this.2.1,by omega,by omega⟩};{rename_i h;refine⟨?_,b,ag _,by omega⟩;rcases ak n (2^k)with g|g;{exact absurd (mc g) h};{exact g}}}
theorem pick_ok (k:Nat)(l:List Nat)(n r:Nat)(s:k<61)(i:∀d∈l,d<10)(a:1<=n\/(∃d q,l=d :: q/\d≠0))(c:n<10*2^k) :
  2^k<=(pick k l n r).1/\(pick k l n r).1<10*2^k/\r<=(pick k l n r).2/\(pick k l n r).2<=r+l.length+20:=by
 have p:0<2^k:=b7 (by decide);induction l generalizing n r with|nil=>{rcases a with a|⟨d,q,h,_⟩;{have f:2^k<=2^60:=cc (by decide) (by omega);have m:(2:Nat)^60<=10^20:=by{decide};have o:1*10^20<=n*10^20:=au _ a;have:=pickz_ok k 20 n r (by omega) c;exact⟨this.1,this.2.1,this.2.2.1,by have:=this.2.2.2;simp only[cu];show(pickz k 20 n r).2<=_;omega⟩};{cases h}}|cons d l ih=>{unfold pick;split;{rename_i h;have hd:=i d (eh ..);have f:=first_add k n d h hd;have hx:1<=n*10+d:=by{rcases a with a|⟨e,q,b,j⟩;{omega};{have:d=e:=by{injection b};subst this;omega}};have:=ih (n*10+d) (r+1) (fun e b=>i e (ew _ b)) (.inl hx) f;exact⟨this.1,this.2.1,by omega,by rw[bw];omega⟩};{rename_i h;refine⟨?_,c,ag _,by omega⟩;rcases ak n (2^k)with g|g;{exact absurd (mc g) h};{exact g}}}
theorem out2_lt (k:Nat)(l:List Nat)(n:Nat)(b:∀d∈l,d<10)(a:n<10*2^k):(∀d∈out2 k n l,d<10)/\left2 k n l<10*2^k:=by
 have p:0<2^k:=b7 (by decide);induction l generalizing n with|nil=>exact⟨fun d h=>(by cases h),a⟩|cons c l ih=>{have f:=b c (eh ..);have:=ih (rest k n+c) (fun e g=>b e (ew _ g)) (rest_add k n c f).1;refine⟨fun d hd=>?_,this.2⟩;rcases ce.1 hd with h|h;{rw[h,la p];exact a};{exact this.1 d h}}
theorem out3_lt (k f n:Nat)(a:n<10*2^k):∀d∈out3 k f n,d<10:=by
 have p:0<2^k:=b7 (by decide);induction f generalizing n with|zero=>{intro d h;cases h}|succ f ih=>{unfold out3;split;{intro d h;cases h};{intro d hd;rcases ce.1 hd with h|h;{rw[h,la p];exact a};{exact ih _ (rest_lt k n) d h}}}
theorem fullR_head (k:Nat)(d:Nat)(r:List Nat)(B:1<=k)(u:k<61)(hd:d≠0)(h:∀e∈d :: r,e<10) :
  ∃e q,fullR k (d :: r)=e :: q/\e≠0/\(∀x∈fullR k (d :: r),x<10)/\1<=(pick k (d :: r) 0 0).2/\(pick k (d :: r) 0 0).2<=r.length+21/\((pick k (d :: r) 0 0).2=1->e<d):=by
 have p:0<2^k:=b7 (by decide);have P:=pick_ok k (d :: r) 0 0 u h (.inr ⟨d,r,rfl,hd⟩) (by omega);have o:pick k (d :: r) 0 0=pick k r (0*10+d) (0+1):=by{show(if 0 / 2^k=0 then _ else _)=_;rw[ae (Nat.zero_div _)]};have J:=h d (eh ..);have z:=pick_ok k r (0*10+d) (0+1) u (fun e i=>h e (ew _ i)) (.inl (by omega)) (by omega);have hr1:1<=(pick k (d :: r) 0 0).2:=by{rw[o];omega};have v:(pick k (d :: r) 0 0).2=1->(pick k (d :: r) 0 0).1=d:=by{rw[o];intro hr;have E:∀(l:List Nat) (n s:Nat),(pick k l n s).2=s->(pick k l n s).1=n:=by{have w:∀f n s,s<=(pickz k f n s).2/\((pickz k f n s).2=s->(pickz k f n s).1=n):=by{intro f;induction f with|zero=>{intro n s;exact⟨ag _,fun _=>rfl⟩}|succ f ih=>{intro n s;unfold pickz;split;{have:=(ih (n*10) (s+1)).1;exact⟨by omega,fun h=>by omega⟩};{exact⟨ag _,fun _=>rfl⟩}}};have F:∀(l:List Nat) n s,s<=(pick k l n s).2:=by{intro l;induction l with|nil=>{intro n s;exact(w 20 n s).1}|cons a l ih=>{intro n s;unfold pick;split;{have:=ih (n*10+a) (s+1);omega};{exact ag _}}};intro l;cases l with|nil=>{intro n s;exact(w 20 n s).2}|cons a l=>{intro n s;unfold pick;split;{have:=F l (n*10+a) (s+1);intro h;omega};{intro _;rfl}}};have:=E r (0*10+d) (0+1) hr;omega};obtain⟨n,m⟩:∃n,(pick k (d :: r) 0 0).1=n:=⟨_,rfl⟩;obtain⟨j,b⟩:∃j,(pick k (d :: r) 0 0).2=j:=⟨_,rfl⟩;unfold fullR;clear o z;rw[m,b]at P;rw[m,b]at v;rw[b]at hr1;rw[m,b];have C:∀e∈(d :: r).drop j,e<10:=fun e i=>h e (jk i);have t:=out2_lt k ((d :: r).drop j) n C P.2.1;have y:=out3_lt k (k+2) _ t.2;have hq0:n / 2^k≠0:=by{have:=po P.1 p;omega};have all:∀x∈out2 k n ((d :: r).drop j)++out3 k (k+2) (left2 k n ((d :: r).drop j)),x<10:=fun x hx=>by{rcases de.1 hx with g|g;{exact t.1 x g};{exact y x g}};have lt:j=1->n / 2^k<d:=fun D=>by{have:=v D;subst this;have two:2<=2^k:=by{have:2^1<=2^k:=cc (by decide) B;omega};exact Nat.div_lt_self (by omega) two};have hjl:j<=r.length+21:=by{have:=P.2.2.2;rw[bw]at this;omega};cases hx:(d :: r).drop j with|nil=>{rw[hx]at all;have e3:out3 k (k+2) n=n / 2^k :: out3 k (k+1) (rest k n):=by{show(if n=0 then _ else _)=_;rw[ac (by intro A;rw[A,Nat.zero_div]at hq0;exact hq0 rfl)]};exact⟨n / 2^k,out3 k (k+1) (rest k n),by show []++out3 k (k+2) n=_;rw[en,e3],hq0,all,hr1,hjl,lt⟩}|cons c l=>{rw[hx]at all;exact⟨n / 2^k,_,rfl,hq0,all,hr1,hjl,lt⟩}
theorem rsh_fine (k:Nat)(s:Dc)(o:1<=k)(t:k<61)(h:Fine s)(u:1<=s.nd):Fine (rsh k s)/\1<=(rsh k s).nd/\(rsh k s).dp<=s.dp/\s.dp-820<=(rsh k s).dp/\((rsh k s).dp=s.dp->(rsh k s).top<s.top)/\(rsh k s).top<10:=by
 obtain⟨d,r,b,l,e3,e4,e5⟩:=fine_cons h u;obtain⟨e,q,f,m,g,v,w,n⟩:=fullR_head k d r o t l e4;obtain⟨i,j,a,c⟩:=fine_laid s (fullR k (d :: r)) h.len e q f m g (s.dp-((pick k (dgs s.D s.nd) 0 0).2-1)) (s.trunc||over 0 ((fullR k (dgs s.D s.nd)).map ch));have p:rsh k s=trimD { s with D:=ow s.D 0 ((fullR k (d :: r)).map ch),nd:=min ((fullR k (d :: r)).map ch).length 800,dp:=s.dp-((pick k (dgs s.D s.nd) 0 0).2-1),trunc:=s.trunc||over 0 ((fullR k (dgs s.D s.nd)).map ch) }:=by{unfold rsh rshD;rw[b]};have y:=h.le;rw[p];rw[b]at i j a c;rw[b];refine⟨i,j,by rw[a];omega,by rw[a];omega,?_,?_⟩;{rw[a,c,e3];intro x;exact n (by omega)};{rw[c];exact g e (by rw[f];exact eh ..)}
end Go.Proofs.YtcfgbdhpcboikaaGreatDoor.Dec
