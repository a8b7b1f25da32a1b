/-
The document's Small, Lower and Scheme: what they answer.
-/
import Derived.Test.YtcfgbdhpcboikaaGreatDoorRefIn
import Derived.Test.YtcfgbdhpcboikaaGreatDoorFormV
namespace Go.Proofs.YtcfgbdhpcboikaaGreatDoor
set_option maxHeartbeats 8000000
set_option maxRecDepth 100000
open Go.RowKit
theorem sM {a w v:H}(h:G (Go.RowKit.Below a.heap.size a w))(b:Go.RowKit.Below w.heap.size w v):G (Go.RowKit.Below a.heap.size a v):=Z (h.o.trans (b.mono h.o.size))
theorem aRI {a b:Int}(h:a=b):Ending.returned (.int .u8 a)=.returned (.int .u8 b):=by rw[h]
theorem bV (c:UInt8)(d:Nat)(hd:G ((bO c).toNat=d))(w:H):Y 73 #[.int .u8 c.toNat] w fun e w'=>e=.returned (.int .u8 d)/\w=w':=by
 have a:=tC c;rw[hd.o]at a;have i:=c.toNat_lt;generalize c.toNat=n at *;have f:n<65\/(65<=n/\n<=90)\/90<n:=by{omega};rcases f with h|⟨h,g⟩|h;{rw[ac (by omega)]at a;subst a;go_enter Tryz.func73,Tryz.ntmps73;go_wp2;go_ret;exact⟨rfl,rfl⟩};{rw[ae (by omega)]at a;have b:=Z a;clear a;go_enter Tryz.func73,Tryz.ntmps73;go_wp2;go_ret;exact⟨aRI (by rw[b.o];omega),rfl⟩};{rw[ac (by omega)]at a;subst a;go_enter Tryz.func73,Tryz.ntmps73;go_wp2;go_ret;exact⟨rfl,rfl⟩}
theorem aDc (s:I)(C:s.size<=140737488355328)(w:H):Y 74 #[.string s] w (O (.string ⟨(cH s.data.toList).toArray⟩) w):=by
 obtain⟨cap,W,B,h,n,l⟩:=aBD s w;have p:G (qJ s.data.toList w.heap.size 0 w W):=⟨ax _,n,h⟩;have x:=Z l;clear h n l;go_enter Tryz.func74,Tryz.ntmps74;go_wp2;go_loopw [4] (fun i wx=>∃k:Nat,i=.int .i64 k/\G (qJ s.data.toList w.heap.size k w wx)) (fun i _=>s.size-(intOf i).toNat);case atStart=>exact⟨0,rfl,p⟩
 case round =>obtain⟨k,rfl,a⟩:=hrel;rcases ak k s.size with v|t;{obtain⟨c,hcell,hfree,h1,g⟩:=aDq _ _ _ _ _ a.o v;have q:=Z g;have y:=c.toNat_lt;clear h1 g;obtain⟨d,hd⟩:∃d,(bO c).toNat=d:=⟨_,rfl⟩;have f:=Z hd;have A:d<256:=by{rw[<-hd];exact(bO c).toNat_lt};clear hd;go_wp2_with (go_at_call 73;refine(bV c d f _).mono ?_;rintro e w' ⟨rfl,rfl⟩);go_roundw;(case rel=>exact⟨k+1,by go_num,q.o _ (by rw[f.o])⟩);case measure=>simp[intOf];omega};{have b:=a.o.2.1;have m:k=s.data.toList.length:=Nat.le_antisymm a.o.1 t;rw[m,jm,rf,dc]at b;have hlen:(cH s.data.toList).length=s.size:=by{unfold cH;simp};have z:(convert 35 9 (.slice (some ⟨w.heap.size,0,none⟩) s.size cap)).run Tryz.prog wr=.ok (.string ⟨(cH s.data.toList).toArray⟩) wr:=by{rw[<-hlen];refine vb wr 35 9 5 _ cap _ Tryz.underlying35 Tryz.underlying5 Tryz.underlying9 ?_;intro j u;have r:(⟨w.heap.size,0,none⟩:Addr).add j=⟨w.heap.size,0+j,none⟩:=by{unfold Addr.add;split<;>simp_all};rw[r];exact b.bytes j u};clear b hlen m;go_wp2;go_ret;exact⟨rfl,a.o.2.2⟩}
theorem aDi (c:UInt8)(d k:Nat)(h:(bO c).toNat=d):aO (bO c) k=((decide (97<=d)&&decide (d<=122))||(decide (0<k)&&((decide (48<=d)&&decide (d<=57))||decide (d=43)||decide (d=45)||decide (d=46)))):=by
 unfold aO;rw[h]
theorem aNW (c:UInt8)(h:(bO c).toNat=58):c=58:=by
 rw[tC]at h;split at h;{omega};{exact dx.1 (by rw[h];rfl)}
theorem aD1 {p:U}{k:Nat}(h:oB p k):∀j c,j<k->p[j]?=some c->aO (bO c) j=true:=by
 intro j c d a;have b:j<p.length:=(fc.1 a).1;rw[bc b]at a;cases a;exact h.2 j b d
structure aDz (s:I) (k d:Nat):Prop where
 yes:((decide (97<=d)&&decide (d<=122))||(decide (0<k)&&((decide (48<=d)&&decide (d<=57))||decide (d=43)||decide (d=45)||decide (d=46))))=true->oB s.data.toList (k+1)
 no:((decide (97<=d)&&decide (d<=122))||(decide (0<k)&&((decide (48<=d)&&decide (d<=57))||decide (d=43)||decide (d=45)||decide (d=46))))=false->(d=58->k=0)->kS s.data.toList=.tuple #[.string ⟨#[]⟩,.bool false]
 colon:d=58->0<k->kS s.data.toList=.tuple #[.string ⟨(cH (s.data.toList.take k)).toArray⟩,.bool true]
theorem aDz.of (s:I)(k d:Nat)(m:k<s.size)(h:oB s.data.toList k)(hd:(bO s[k]).toNat=d):aDz s k d:=by
 have c:k<s.data.toList.length:=m;have a:s.data.toList[k]?=some s[k]:=by{rw[bc c];rfl};have l:s.data.toList[k]=s[k]:=by{rw[bc c]at a;exact b8 a};refine⟨fun g=>?_,fun f b=>?_,fun b i=>?_⟩;{rw[<-aDi s[k] d k hd,<-l]at g;exact h.step c g};{rw[<-aDi s[k] d k hd]at f;exact iZ (aJn _ k s[k] a f (fun e=>b (by rw[<-hd,e];rfl)) (aD1 h))};{have j:s[k]=58:=aNW _ (by rw[hd,b]);rw[j]at a;exact qE (aGJ _ k i a (aD1 h))}
theorem aFT (s:I)(k:Nat)(_hk:k<=s.size):(s.extract 0 k).data.toList=s.data.toList.take k:=by
 have:=jL s 0 k;rw[toList_data]at this;rw[this];unfold fY;simp
def aHO (s:I)(w:H)(e:Ending)(w':H):Prop:=e=.returned (kS s.data.toList)/\Below w.heap.size w w'
theorem aHz (s:I)(P:s.size<=140737488355328)(w:H):Y 31 #[.string s] w (aHO s w):=by
 go_enter Tryz.func31,Tryz.ntmps31;go_wp2;go_loop [2,3,4] (fun F J i=>F=.string ⟨#[]⟩/\J=.bool false/\∃k:Nat,i=.int .i64 k/\G (oB s.data.toList k)) (fun _ _ i=>s.size-(intOf i).toNat);case atStart=>exact⟨rfl,rfl,0,rfl,Z ⟨ax _,fun j D B=>absurd B (by omega)⟩⟩
 case round =>
  obtain⟨rfl,rfl,k,rfl,p⟩:=hrel;rcases ak k s.size with E|N
  ·obtain⟨d,hd⟩:∃d,(bO s[k]).toNat=d:=⟨_,rfl⟩;have b:=Z hd;have M:d<256:=by{rw[<-hd];exact(bO s[k]).toNat_lt};have f:=Z (aDz.of s k d E p.o hd);clear hd;have r:(97<=d/\d<=122)\/122<d\/(58<d/\d<97)\/d=58\/(48<=d/\d<=57)\/d=47\/d=46\/d=45\/d=44\/d=43\/d<43:=by{omega};rcases g7 k with m|m
   ·subst m;rcases r with⟨h,l⟩|h|⟨h,l⟩|rfl|⟨h,l⟩|rfl|rfl|rfl|rfl|rfl|h;{have a:=Z (f.o.yes (by simp;omega));have g:((d:Int)==58)=false:=by{rw[ai];omega};go_wp2_with (go_at_call 73;refine(bV _ _ b _).mono ?_;rintro e w' ⟨rfl,rfl⟩);go_round;(case rel=>exact⟨rfl,rfl,1,by go_num,a⟩);case measure=>simp[intOf];omega};{have a:=Z (f.o.no (by simp;omega) (by omega));have g:((d:Int)==58)=false:=by{rw[ai];omega};go_wp2_with (go_at_call 73;refine(bV _ _ b _).mono ?_;rintro e w' ⟨rfl,rfl⟩);go_ret2;exact⟨by rw[a.o];rfl,aj _ _⟩};{have a:=Z (f.o.no (by simp;omega) (by omega));have g:((d:Int)==58)=false:=by{rw[ai];omega};go_wp2_with (go_at_call 73;refine(bV _ _ b _).mono ?_;rintro e w' ⟨rfl,rfl⟩);go_ret2;exact⟨by rw[a.o];rfl,aj _ _⟩};{have a:=Z (f.o.no (by simp) (by simp));go_wp2_with (go_at_call 73;refine(bV _ _ b _).mono ?_;rintro e w' ⟨rfl,rfl⟩);go_ret2;exact⟨by rw[a.o];rfl,aj _ _⟩};{have a:=Z (f.o.no (by simp;omega) (by omega));have g:((d:Int)==58)=false:=by{rw[ai];omega};go_wp2_with (go_at_call 73;refine(bV _ _ b _).mono ?_;rintro e w' ⟨rfl,rfl⟩);go_ret2;exact⟨by rw[a.o];rfl,aj _ _⟩}
    all_goals
     have a:=Z (f.o.no (by simp;try omega) (by omega));try have g:((d:Int)==58)=false:=by rw[ai];omega
     go_wp2_with (go_at_call 73;refine(bV _ _ b _).mono ?_;rintro e w' ⟨rfl,rfl⟩)
     go_ret2;exact⟨by rw[a.o];rfl,aj _ _⟩
   {rcases r with⟨h,l⟩|h|⟨h,l⟩|rfl|⟨h,l⟩|rfl|rfl|rfl|rfl|rfl|h;{have a:=Z (f.o.yes (by simp;omega));have g:((d:Int)==58)=false:=by{rw[ai];omega};go_wp2_with (go_at_call 73;refine(bV _ _ b _).mono ?_;rintro e w' ⟨rfl,rfl⟩);go_round;(case rel=>exact⟨rfl,rfl,k+1,by go_num,a⟩);case measure=>simp[intOf];omega};{have a:=Z (f.o.no (by simp;omega) (by omega));have g:((d:Int)==58)=false:=by{rw[ai];omega};have u:((d:Int)==43)=false:=by{rw[ai];omega};have v:((d:Int)==45)=false:=by{rw[ai];omega};have x:((d:Int)==46)=false:=by{rw[ai];omega};go_wp2_with (go_at_call 73;refine(bV _ _ b _).mono ?_;rintro e w' ⟨rfl,rfl⟩);go_ret2;exact⟨by rw[a.o];rfl,aj _ _⟩};{have a:=Z (f.o.no (by simp;omega) (by omega));have g:((d:Int)==58)=false:=by{rw[ai];omega};have u:((d:Int)==43)=false:=by{rw[ai];omega};have v:((d:Int)==45)=false:=by{rw[ai];omega};have x:((d:Int)==46)=false:=by{rw[ai];omega};go_wp2_with (go_at_call 73;refine(bV _ _ b _).mono ?_;rintro e w' ⟨rfl,rfl⟩);go_ret2;exact⟨by rw[a.o];rfl,aj _ _⟩};{have a:=Z (f.o.colon rfl m);have t:(s.extract 0 k).size<=140737488355328:=by{rw[ByteArray.size_extract];omega};have L:=aDc (s.extract 0 k) t w;rw[aFT s k (by omega)]at L;have z:=Z L;clear L t;go_wp2_with (go_at_call 73;refine(bV _ _ b _).mono ?_;rintro e w' ⟨rfl,rfl⟩);refine z.o.mono ?_;rintro e K ⟨rfl,n⟩;have y:=Z n;clear n;go_wp2;go_ret2;exact⟨by rw[a.o];rfl,y.o⟩};{have a:=Z (f.o.yes (by simp;omega));have g:((d:Int)==58)=false:=by{rw[ai];omega};go_wp2_with (go_at_call 73;refine(bV _ _ b _).mono ?_;rintro e w' ⟨rfl,rfl⟩);go_round;(case rel=>exact⟨rfl,rfl,k+1,by go_num,a⟩);case measure=>simp[intOf];omega};{have a:=Z (f.o.no (by simp) (by omega));go_wp2_with (go_at_call 73;refine(bV _ _ b _).mono ?_;rintro e w' ⟨rfl,rfl⟩);go_ret2;exact⟨by rw[a.o];rfl,aj _ _⟩};{have a:=Z (f.o.yes (by simp;omega));go_wp2_with (go_at_call 73;refine(bV _ _ b _).mono ?_;rintro e w' ⟨rfl,rfl⟩);go_round;(case rel=>exact⟨rfl,rfl,k+1,by go_num,a⟩);case measure=>simp[intOf];omega};{have a:=Z (f.o.yes (by simp;omega));go_wp2_with (go_at_call 73;refine(bV _ _ b _).mono ?_;rintro e w' ⟨rfl,rfl⟩);go_round;(case rel=>exact⟨rfl,rfl,k+1,by go_num,a⟩);case measure=>simp[intOf];omega};{have a:=Z (f.o.no (by simp) (by omega));go_wp2_with (go_at_call 73;refine(bV _ _ b _).mono ?_;rintro e w' ⟨rfl,rfl⟩);go_ret2;exact⟨by rw[a.o];rfl,aj _ _⟩};{have a:=Z (f.o.yes (by simp;omega));go_wp2_with (go_at_call 73;refine(bV _ _ b _).mono ?_;rintro e w' ⟨rfl,rfl⟩);go_round;(case rel=>exact⟨rfl,rfl,k+1,by go_num,a⟩);case measure=>simp[intOf];omega};{have a:=Z (f.o.no (by simp;omega) (by omega));have g:((d:Int)==58)=false:=by{rw[ai];omega};have u:((d:Int)==43)=false:=by{rw[ai];omega};have v:((d:Int)==45)=false:=by{rw[ai];omega};have x:((d:Int)==46)=false:=by{rw[ai];omega};go_wp2_with (go_at_call 73;refine(bV _ _ b _).mono ?_;rintro e w' ⟨rfl,rfl⟩);go_ret2;exact⟨by rw[a.o];rfl,aj _ _⟩}}
  {have q:kS s.data.toList=.tuple #[.string ⟨#[]⟩,.bool false]:=iZ (aJo _ (fun j c D C=>aD1 p.o j c (by have:s.data.toList.length=s.size:=rfl;omega) C));have A:=Z q;clear q;go_wp2;go_ret2;exact⟨by rw[A.o];rfl,aj _ _⟩}
open Go.RowKit
def aAS (s:I)(w:H)(e:Ending)(w':H):Prop:=e=.returned (.string s)/\Below w.heap.size w w'
def tW (b:Bool)(w:H)(e:Ending)(w':H):Prop:=e=.returned (.bool b)/\w=w'
def rN (s:I)(b:Bool)(w:H)(e:Ending)(w':H):Prop:=e=.returned (.tuple #[.string s,.bool b])/\Below w.heap.size w w'
theorem aGR (c:UInt8):(wN c=true/\97<=(bO c).toNat/\(bO c).toNat<=122)\/(wN c=false/\¬(97<=(bO c).toNat/\(bO c).toNat<=122)/\(bO c).toNat=c.toNat):=by
 have h:=tC c;unfold wN;simp only[k8,bt,bm,th,je,g8];split at h<;>omega
theorem aHk (c:UInt8)(k d:Nat)(h:(bO c).toNat=d):qZ c k=((decide (97<=d)&&decide (d<=122))||(decide (0<k)&&(decide (d=45)||(decide (48<=d)&&decide (d<=57))))):=by
 subst h;unfold qZ;rcases aGR c with⟨b,e,a⟩|⟨b,e,a⟩;{rw[b,bu e,bu a];rfl};{rw[b,a];have:(decide (97<=c.toNat)&&decide (c.toNat<=122))=false:=by{rw[a]at e;simp only[je,g8];omega};rw[this]}
structure lC (v:I) (k:Nat) (b:Bool):Prop where
 le:k<=v.size
 iff:b=true↔(1<=v.size/\v.size<=16)/\∀j (h:j<v.data.toList.length),j<k->qZ v.data.toList[j] j=true
theorem lC.start (v:I)(b:Bool)(h:b=true↔1<=v.size/\v.size<=16):lC v 0 b:=⟨ax _,by rw[h];exact⟨fun x=>⟨x,fun j _ a=>absurd a (by omega)⟩,fun x=>x.1⟩⟩
theorem lC.next {v:I}{k:Nat}{b:Bool}(h:lC v k b)(f:k<v.size):lC v (k+1) (b&&qZ v[k] k):=by
 have e:v.data.toList[k]'f=v[k]:=rfl;refine⟨f,?_⟩;rw[bt,h.iff];constructor;{rintro⟨⟨c,a⟩,i⟩;refine⟨c,fun j d l=>?_⟩;rcases ak j k with g|g;{exact a j d g};{obtain rfl:j=k:=by{omega};rw[e];exact i}};{rintro⟨c,a⟩;exact⟨⟨c,fun j d l=>a j d (by omega)⟩,by have:=a k f (by omega);rwa[e]at this⟩}
theorem lC.done {v:I}{k:Nat}{b ok:Bool}(h:lC v k b)(d:v.size<=k)(c:ok=true↔oJ v):b=ok:=by
 rw[ba,h.iff,c];unfold oJ aA1;have e:v.data.toList.length=v.size:=rfl;exact⟨fun x=>⟨fun j a=>x.2 j a (by omega),x.1.1,x.1.2⟩,fun x=>⟨x.2,fun j a _=>x.1 j a⟩⟩
theorem lC.no {v:I}{k:Nat}(h:lC v k false)(hk:k<v.size):lC v (k+1) false:=h.next hk
theorem lC.yes {v:I}{k d:Nat}(h:lC v k true)(hk:k<v.size)(hd:(bO v[k]).toNat=d)(c:Bool)(a:((decide (97<=d)&&decide (d<=122))||(decide (0<k)&&(decide (d=45)||(decide (48<=d)&&decide (d<=57)))))=c):lC v (k+1) c:=by
 have:=h.next hk;rw[aHk _ k d hd,a,jz]at this;exact this
theorem aHA (e n v s:I)(hv:v.size<=1048576)(ok:Bool)(o:Option I)(k:Nat)(h2:2<=k)(bd:((k:Int)==14)=false)(w:H)(HT:G (aA w))(HK:G (jJ e k))
  (j m p r u y A J K L N T yA yO yK yE yM:Bool)
  (a4:(n.toList==[116,105,116,108,101])=j)
  (ar:(n.toList==[97,108,116])=m)
  (a1:(n.toList==[108,97,110,103])=p)
  (a0:(n.toList==[100,105,114])=r)
  (a2:(n.toList==[104,114,101,102])=u)
  (a3:(n.toList==[115,114,99])=y)
  (C:G (∀W,Y 69 #[.string n,.string ⟨#[104,101,105,103,104,116,32,119,105,100,116,104]⟩] W (tW A W)))
  (av:(n.toList==[115,116,97,114,116])=J)
  (B:G (∀W,Y 69 #[.string n,.string ⟨#[99,111,108,115,112,97,110,32,114,111,119,115,112,97,110]⟩] W (tW K W)))
  (E:G (∀W,Y 69 #[.string n,.string ⟨#[109,97,120,32,118,97,108,117,101]⟩] W (tW L W)))
  (D:G (∀W,Y 69 #[.string n,.string ⟨#[104,105,103,104,32,108,111,119,32,109,105,110]⟩] W (tW N W)))
  (a6:(e.toList==[105,109,103])=T)
  (a5:(e.toList==[97])=yA)
  (a9:(e.toList==[111,108])=yO)
  (a7:((k:Int)==13)=yK)
  (F:G (∀W,Y 69 #[.string e,.string ⟨#[109,101,116,101,114,32,112,114,111,103,114,101,115,115]⟩] W (tW yE W)))
  (a8:(e.toList==[109,101,116,101,114])=yM)
  (hE:G (ok=true->∀W,Y 96 #[.string s,.bool true] W (aAS (iQ s) W)))
  (hO:(ok=false/\o=none)\/(ok=true/\120<(iQ s).size/\o=none)\/(ok=true/\(iQ s).size<=120/\o=some s))
  (hc:(j=true/\(G (∀W,Y 33 #[.string v] W (aAS s W))/\ok=true)) \/
   (j=false/\m=true/\T=true/\(G (∀W,Y 33 #[.string v] W (aAS s W))/\ok=true)) \/
   (j=false/\m=true/\T=false/\p=false/\r=false/\u=false/\y=false/\A=false/\J=false/\K=false/\L=false/\N=false/\(v=s/\ok=false)) \/
   (j=false/\m=false/\p=true/\(v=s/\G (ok=true↔oJ v))) \/
   (j=false/\m=false/\p=false/\r=true/\(G (∀W,Y 74 #[.string v] W (aAS s W))/\G (∀W,Y 69 #[.string s,.string ⟨#[97,117,116,111,32,108,116,114,32,114,116,108]⟩] W (tW ok W)))) \/
   (j=false/\m=false/\p=false/\r=false/\u=true/\yA=true/\(G (∀W,Y 93 #[.string v,.string ⟨#[104,116,116,112,32,104,116,116,112,115,32,109,97,105,108,116,111]⟩] W (rN s ok W)))) \/
   (j=false/\m=false/\p=false/\r=false/\u=true/\yA=false/\y=false/\A=false/\J=false/\K=false/\L=false/\N=false/\(v=s/\ok=false)) \/
   (j=false/\m=false/\p=false/\r=false/\u=false/\y=true/\T=true/\(G (∀W,Y 93 #[.string v,.string ⟨#[104,116,116,112,32,104,116,116,112,115]⟩] W (rN s ok W)))) \/
   (j=false/\m=false/\p=false/\r=false/\u=false/\y=true/\T=false/\A=false/\J=false/\K=false/\L=false/\N=false/\(v=s/\ok=false)) \/
   (j=false/\m=false/\p=false/\r=false/\u=false/\y=false/\A=true/\T=true/\(v=s/\∃x:Int,G (∀W,Y 94 #[.string v,.int .i64 0,.int .i64 9999] W (fun e w'=>e=.returned (.tuple #[.int .i64 x,.bool ok])/\W=w')))) \/
   (j=false/\m=false/\p=false/\r=false/\u=false/\y=false/\A=true/\T=false/\J=false/\K=false/\L=false/\N=false/\(v=s/\ok=false)) \/
   (j=false/\m=false/\p=false/\r=false/\u=false/\y=false/\A=false/\J=true/\yO=true/\(v=s/\∃x:Int,G (∀W,Y 94 #[.string v,.int .i64 0,.int .i64 999999] W (fun e w'=>e=.returned (.tuple #[.int .i64 x,.bool ok])/\W=w')))) \/
   (j=false/\m=false/\p=false/\r=false/\u=false/\y=false/\A=false/\J=true/\yO=false/\K=false/\L=false/\N=false/\(v=s/\ok=false)) \/
   (j=false/\m=false/\p=false/\r=false/\u=false/\y=false/\A=false/\J=false/\K=true/\yK=true/\(v=s/\∃x:Int,G (∀W,Y 94 #[.string v,.int .i64 1,.int .i64 1000] W (fun e w'=>e=.returned (.tuple #[.int .i64 x,.bool ok])/\W=w')))) \/
   (j=false/\m=false/\p=false/\r=false/\u=false/\y=false/\A=false/\J=false/\K=true/\yK=false/\L=false/\N=false/\(v=s/\ok=false)) \/
   (j=false/\m=false/\p=false/\r=false/\u=false/\y=false/\A=false/\J=false/\K=false/\L=true/\yE=true/\(G (∀W,aA W->Y 95 #[.string v] W (rN s ok W)))) \/
   (j=false/\m=false/\p=false/\r=false/\u=false/\y=false/\A=false/\J=false/\K=false/\L=true/\yE=false/\N=false/\(v=s/\ok=false)) \/
   (j=false/\m=false/\p=false/\r=false/\u=false/\y=false/\A=false/\J=false/\K=false/\L=false/\N=true/\yM=true/\(G (∀W,aA W->Y 95 #[.string v] W (rN s ok W)))) \/
   (j=false/\m=false/\p=false/\r=false/\u=false/\y=false/\A=false/\J=false/\K=false/\L=false/\N=true/\yM=false/\(v=s/\ok=false)) \/
   (j=false/\m=false/\p=false/\r=false/\u=false/\y=false/\A=false/\J=false/\K=false/\L=false/\N=false/\(v=s/\ok=false))) :
  Y 44 #[.string e,.string n,.string v] w (O (lS o) w):=by
 have HO:=Z hO;have l2:decide ((k:Int)<2)=false:=by simp;omega
 have ao:G (ok=false\/ok=true):=by cases ok<;>simp[G]
 have HC:=Z hc;clear hO hc;go_enter Tryz.func44,Tryz.ntmps44
 go_wp2_with fail
 refine(HK.o _).mono ?_;rintro x W1 ⟨rfl,B1⟩;have l:=Z B1;have ad:=Z (HT.o.below B1 (ag _));clear B1;go_upto_block 0 with fail
 go_cut [9,10] (fun a b wx=>a=.string s/\b=.bool ok/\G (Below w.heap.size w wx))
 case first =>
  have hc:=HC.o;clear HC;rcases hc with⟨rfl,f⟩|⟨rfl,rfl,rfl,f⟩|⟨rfl,rfl,rfl,rfl,rfl,rfl,rfl,rfl,rfl,rfl,rfl,rfl,f⟩|⟨rfl,rfl,rfl,f⟩|⟨rfl,rfl,rfl,rfl,f⟩|⟨rfl,rfl,rfl,rfl,rfl,rfl,f⟩|⟨rfl,rfl,rfl,rfl,rfl,rfl,rfl,rfl,rfl,rfl,rfl,rfl,f⟩|⟨rfl,rfl,rfl,rfl,rfl,rfl,rfl,f⟩|⟨rfl,rfl,rfl,rfl,rfl,rfl,rfl,rfl,rfl,rfl,rfl,rfl,f⟩|⟨rfl,rfl,rfl,rfl,rfl,rfl,rfl,rfl,f⟩|⟨rfl,rfl,rfl,rfl,rfl,rfl,rfl,rfl,rfl,rfl,rfl,rfl,f⟩|⟨rfl,rfl,rfl,rfl,rfl,rfl,rfl,rfl,rfl,f⟩|⟨rfl,rfl,rfl,rfl,rfl,rfl,rfl,rfl,rfl,rfl,rfl,rfl,f⟩|⟨rfl,rfl,rfl,rfl,rfl,rfl,rfl,rfl,rfl,rfl,f⟩|⟨rfl,rfl,rfl,rfl,rfl,rfl,rfl,rfl,rfl,rfl,rfl,rfl,f⟩|⟨rfl,rfl,rfl,rfl,rfl,rfl,rfl,rfl,rfl,rfl,rfl,f⟩|⟨rfl,rfl,rfl,rfl,rfl,rfl,rfl,rfl,rfl,rfl,rfl,rfl,f⟩|⟨rfl,rfl,rfl,rfl,rfl,rfl,rfl,rfl,rfl,rfl,rfl,rfl,f⟩|⟨rfl,rfl,rfl,rfl,rfl,rfl,rfl,rfl,rfl,rfl,rfl,rfl,f⟩|⟨rfl,rfl,rfl,rfl,rfl,rfl,rfl,rfl,rfl,rfl,rfl,f⟩
  ·obtain⟨f,rfl⟩:=f;go_wp2_with fail
   refine(f.o _).mono ?_;rintro x M ⟨rfl,g⟩;have t:=sM l g;clear g;go_wp2_with fail
   go_meet
   case rel=>exact⟨rfl,rfl,t⟩
  ·obtain⟨f,rfl⟩:=f;go_wp2_with fail
   refine(f.o _).mono ?_;rintro x M ⟨rfl,g⟩;have t:=sM l g;clear g;go_wp2_with fail
   go_meet
   case rel=>exact⟨rfl,rfl,t⟩
  ·obtain⟨rfl,rfl⟩:=f;go_wp2_with (go_at_call 69;(first|(with_reducible refine(C.o _).mono ?_)|(with_reducible refine(B.o _).mono ?_)|(with_reducible refine(E.o _).mono ?_)|(with_reducible refine(D.o _).mono ?_)|(with_reducible refine(F.o _).mono ?_));rintro x w' ⟨rfl,rfl⟩)
   go_meet
   case rel=>exact⟨rfl,rfl,l⟩
  ·obtain⟨rfl,f⟩:=f;have al:v.size=0\/(1<=v.size/\v.size<=16)\/16<v.size:=by omega
   obtain⟨R,S⟩:∃R:Bool,R=(decide (1<=v.size)&&decide (v.size<=16)):=⟨_,rfl⟩
   have HS:=Z (lC.start v R (by rw[S];simp));go_upto_region 11 with fail
   go_cut [10] (fun b wx=>b=.bool R/\wx=W1)
   case first =>
    rcases al with h|⟨h,Q⟩|h
    ·have hz:R=false:=by rw[S,je,g8,g8];omega
     clear S;subst hz;have q1:decide ((0:Int)<(v.size:Int))=false:=bp (by omega);go_wp2_with fail
     go_meet
     case rel=>exact⟨rfl,rfl⟩
    ·have hz:R=true:=by rw[S,bt,bm,bm];omega
     clear S;subst hz;have q1:decide ((0:Int)<(v.size:Int))=true:=bu (by omega);have q2:decide ((v.size:Int)<=16)=true:=bu (by omega);go_wp2_with fail
     go_meet
     case rel=>exact⟨rfl,rfl⟩
    ·have hz:R=false:=by rw[S,je,g8,g8];omega
     clear S;subst hz;have q1:decide ((0:Int)<(v.size:Int))=true:=bu (by omega);have q2:decide ((v.size:Int)<=16)=false:=bp (by omega);go_wp2_with fail
     go_meet
     case rel=>exact⟨rfl,rfl⟩
   case rest =>
    obtain⟨rfl,rfl⟩:=hcut;clear S al;go_wp2_with fail
    go_loop [10,11,12,13] (fun b i _ _=>∃(q:Nat) (c:Bool),b=.bool c/\i=.int .i64 q/\G (lC v q c)) (fun _ i _ _=>v.size-(intOf i).toNat)
    case atStart=>exact⟨0,R,rfl,rfl,HS⟩
    case round =>
     obtain⟨q,c,rfl,rfl,X⟩:=hrel;rcases ak q v.size with ah|an
     ·obtain⟨d,hd⟩:∃d,(bO v[q]).toNat=d:=⟨_,rfl⟩
      have V:=Z hd;have bf:d<256:=by rw[<-hd];exact(bO v[q]).toNat_lt
      cases c with
      | false =>
       have P:=Z (X.o.no ah);clear hd X;have aa:(97<=d/\d<=122)\/d<97\/122<d:=by omega
       rcases aa with⟨h,Q⟩|h|h
       all_goals
        go_wp2_with (go_at_call 73;refine(bV _ _ V _).mono ?_;rintro x w' ⟨rfl,rfl⟩)
        go_round
        case rel=>exact⟨q+1,false,rfl,by go_num,P⟩
        case measure=>simp[intOf];omega
      | true =>
       have HY:=Z (fun c=>X.o.yes ah hd c);clear hd X;have aa:(97<=d/\d<=122)\/122<d\/(57<d/\d<97)\/(48<=d/\d<=57)\/(45<d/\d<48)\/d=45\/d<45:=by omega
       rcases g7 q with hq|hq
       ·subst hq;rcases aa with⟨h,Q⟩|h|⟨h,Q⟩|⟨h,Q⟩|⟨h,Q⟩|rfl|h
        all_goals
         try first|have t0:decide ((97:Int)<=(d:Int))=true:=bu (by omega)|have t0:decide ((97:Int)<=(d:Int))=false:=bp (by omega)
         try first|have t1:decide ((d:Int)<=122)=true:=bu (by omega)|have t1:decide ((d:Int)<=122)=false:=bp (by omega)
         try first|have t2:decide ((48:Int)<=(d:Int))=true:=bu (by omega)|have t2:decide ((48:Int)<=(d:Int))=false:=bp (by omega)
         try first|have t3:decide ((d:Int)<=57)=true:=bu (by omega)|have t3:decide ((d:Int)<=57)=false:=bp (by omega)
         first
         |have P:=Z (HY.o true (by simp<;>omega))
          go_wp2_with (go_at_call 73;refine(bV _ _ V _).mono ?_;rintro x w' ⟨rfl,rfl⟩)
          go_round
          case rel=>exact⟨1,true,rfl,by go_num,P⟩
          case measure=>simp[intOf];omega
         |have P:=Z (HY.o false (by simp<;>omega))
          go_wp2_with (go_at_call 73;refine(bV _ _ V _).mono ?_;rintro x w' ⟨rfl,rfl⟩)
          go_round
          case rel=>exact⟨1,false,rfl,by go_num,P⟩
          case measure=>simp[intOf];omega
       ·have q1:decide ((0:Int)<(q:Int))=true:=bu (by omega);rcases aa with⟨h,Q⟩|h|⟨h,Q⟩|⟨h,Q⟩|⟨h,Q⟩|rfl|h
        all_goals
         try first|have t0:decide ((97:Int)<=(d:Int))=true:=bu (by omega)|have t0:decide ((97:Int)<=(d:Int))=false:=bp (by omega)
         try first|have t1:decide ((d:Int)<=122)=true:=bu (by omega)|have t1:decide ((d:Int)<=122)=false:=bp (by omega)
         try first|have t2:decide ((48:Int)<=(d:Int))=true:=bu (by omega)|have t2:decide ((48:Int)<=(d:Int))=false:=bp (by omega)
         try first|have t3:decide ((d:Int)<=57)=true:=bu (by omega)|have t3:decide ((d:Int)<=57)=false:=bp (by omega)
         try have bh:((d:Int)==45)=false:=by rw[ai];omega
         first
         |have P:=Z (HY.o true (by simp<;>omega))
          go_wp2_with (go_at_call 73;refine(bV _ _ V _).mono ?_;rintro x w' ⟨rfl,rfl⟩)
          go_round
          case rel=>exact⟨q+1,true,rfl,by go_num,P⟩
          case measure=>simp[intOf];omega
         |have P:=Z (HY.o false (by simp<;>omega))
          go_wp2_with (go_at_call 73;refine(bV _ _ V _).mono ?_;rintro x w' ⟨rfl,rfl⟩)
          go_round
          case rel=>exact⟨q+1,false,rfl,by go_num,P⟩
          case measure=>simp[intOf];omega
     ·obtain rfl:c=ok:=X.o.done an f.o;go_wp2_with fail
      go_meet
      case rel=>exact⟨rfl,rfl,l⟩
  ·obtain⟨f,HQ⟩:=f;go_wp2_with fail
   refine(f.o _).mono ?_;rintro x M ⟨rfl,g⟩;have t:=sM l g;clear g;go_wp2_with fail
   refine(HQ.o _).mono ?_;rintro x W3 ⟨rfl,rfl⟩;go_wp2_with fail
   go_meet
   case rel=>exact⟨rfl,rfl,t⟩
  ·go_wp2_with fail
   refine(f.o _).mono ?_;rintro x M ⟨rfl,g⟩;have t:=sM l g;clear g;go_wp2_with fail
   go_meet
   case rel=>exact⟨rfl,rfl,t⟩
  ·obtain⟨rfl,rfl⟩:=f;go_wp2_with (go_at_call 69;(first|(with_reducible refine(C.o _).mono ?_)|(with_reducible refine(B.o _).mono ?_)|(with_reducible refine(E.o _).mono ?_)|(with_reducible refine(D.o _).mono ?_)|(with_reducible refine(F.o _).mono ?_));rintro x w' ⟨rfl,rfl⟩)
   go_meet
   case rel=>exact⟨rfl,rfl,l⟩
  ·go_wp2_with fail
   refine(f.o _).mono ?_;rintro x M ⟨rfl,g⟩;have t:=sM l g;clear g;go_wp2_with fail
   go_meet
   case rel=>exact⟨rfl,rfl,t⟩
  ·obtain⟨rfl,rfl⟩:=f;go_wp2_with (go_at_call 69;(first|(with_reducible refine(C.o _).mono ?_)|(with_reducible refine(B.o _).mono ?_)|(with_reducible refine(E.o _).mono ?_)|(with_reducible refine(D.o _).mono ?_)|(with_reducible refine(F.o _).mono ?_));rintro x w' ⟨rfl,rfl⟩)
   go_meet
   case rel=>exact⟨rfl,rfl,l⟩
  ·obtain⟨rfl,z,f⟩:=f;go_wp2_with (go_at_call 69;(first|(with_reducible refine(C.o _).mono ?_)|(with_reducible refine(B.o _).mono ?_)|(with_reducible refine(E.o _).mono ?_)|(with_reducible refine(D.o _).mono ?_)|(with_reducible refine(F.o _).mono ?_));rintro x w' ⟨rfl,rfl⟩)
   refine(f.o _).mono ?_;rintro x M ⟨rfl,rfl⟩;go_wp2_with fail
   go_meet
   case rel=>exact⟨rfl,rfl,l⟩
  ·obtain⟨rfl,rfl⟩:=f;go_wp2_with (go_at_call 69;(first|(with_reducible refine(C.o _).mono ?_)|(with_reducible refine(B.o _).mono ?_)|(with_reducible refine(E.o _).mono ?_)|(with_reducible refine(D.o _).mono ?_)|(with_reducible refine(F.o _).mono ?_));rintro x w' ⟨rfl,rfl⟩)
   go_meet
   case rel=>exact⟨rfl,rfl,l⟩
  ·obtain⟨rfl,z,f⟩:=f;go_wp2_with (go_at_call 69;(first|(with_reducible refine(C.o _).mono ?_)|(with_reducible refine(B.o _).mono ?_)|(with_reducible refine(E.o _).mono ?_)|(with_reducible refine(D.o _).mono ?_)|(with_reducible refine(F.o _).mono ?_));rintro x w' ⟨rfl,rfl⟩)
   refine(f.o _).mono ?_;rintro x M ⟨rfl,rfl⟩;go_wp2_with fail
   go_meet
   case rel=>exact⟨rfl,rfl,l⟩
  ·obtain⟨rfl,rfl⟩:=f;go_wp2_with (go_at_call 69;(first|(with_reducible refine(C.o _).mono ?_)|(with_reducible refine(B.o _).mono ?_)|(with_reducible refine(E.o _).mono ?_)|(with_reducible refine(D.o _).mono ?_)|(with_reducible refine(F.o _).mono ?_));rintro x w' ⟨rfl,rfl⟩)
   go_meet
   case rel=>exact⟨rfl,rfl,l⟩
  ·obtain⟨rfl,z,f⟩:=f;go_wp2_with (go_at_call 69;(first|(with_reducible refine(C.o _).mono ?_)|(with_reducible refine(B.o _).mono ?_)|(with_reducible refine(E.o _).mono ?_)|(with_reducible refine(D.o _).mono ?_)|(with_reducible refine(F.o _).mono ?_));rintro x w' ⟨rfl,rfl⟩)
   refine(f.o _).mono ?_;rintro x M ⟨rfl,rfl⟩;go_wp2_with fail
   go_meet
   case rel=>exact⟨rfl,rfl,l⟩
  ·obtain⟨rfl,rfl⟩:=f;go_wp2_with (go_at_call 69;(first|(with_reducible refine(C.o _).mono ?_)|(with_reducible refine(B.o _).mono ?_)|(with_reducible refine(E.o _).mono ?_)|(with_reducible refine(D.o _).mono ?_)|(with_reducible refine(F.o _).mono ?_));rintro x w' ⟨rfl,rfl⟩)
   go_meet
   case rel=>exact⟨rfl,rfl,l⟩
  ·go_wp2_with (go_at_call 69;(first|(with_reducible refine(C.o _).mono ?_)|(with_reducible refine(B.o _).mono ?_)|(with_reducible refine(E.o _).mono ?_)|(with_reducible refine(D.o _).mono ?_)|(with_reducible refine(F.o _).mono ?_));rintro x w' ⟨rfl,rfl⟩)
   refine(f.o _ ad.o).mono ?_;rintro x M ⟨rfl,g⟩;have t:=sM l g;clear g;go_wp2_with fail
   go_meet
   case rel=>exact⟨rfl,rfl,t⟩
  ·obtain⟨rfl,rfl⟩:=f;go_wp2_with (go_at_call 69;(first|(with_reducible refine(C.o _).mono ?_)|(with_reducible refine(B.o _).mono ?_)|(with_reducible refine(E.o _).mono ?_)|(with_reducible refine(D.o _).mono ?_)|(with_reducible refine(F.o _).mono ?_));rintro x w' ⟨rfl,rfl⟩)
   go_meet
   case rel=>exact⟨rfl,rfl,l⟩
  ·go_wp2_with (go_at_call 69;(first|(with_reducible refine(C.o _).mono ?_)|(with_reducible refine(B.o _).mono ?_)|(with_reducible refine(E.o _).mono ?_)|(with_reducible refine(D.o _).mono ?_)|(with_reducible refine(F.o _).mono ?_));rintro x w' ⟨rfl,rfl⟩)
   refine(f.o _ ad.o).mono ?_;rintro x M ⟨rfl,g⟩;have t:=sM l g;clear g;go_wp2_with fail
   go_meet
   case rel=>exact⟨rfl,rfl,t⟩
  ·obtain⟨rfl,rfl⟩:=f;go_wp2_with (go_at_call 69;(first|(with_reducible refine(C.o _).mono ?_)|(with_reducible refine(B.o _).mono ?_)|(with_reducible refine(E.o _).mono ?_)|(with_reducible refine(D.o _).mono ?_)|(with_reducible refine(F.o _).mono ?_));rintro x w' ⟨rfl,rfl⟩)
   go_meet
   case rel=>exact⟨rfl,rfl,l⟩
  ·obtain⟨rfl,rfl⟩:=f;go_wp2_with (go_at_call 69;(first|(with_reducible refine(C.o _).mono ?_)|(with_reducible refine(B.o _).mono ?_)|(with_reducible refine(E.o _).mono ?_)|(with_reducible refine(D.o _).mono ?_)|(with_reducible refine(F.o _).mono ?_));rintro x w' ⟨rfl,rfl⟩)
   go_meet
   case rel=>exact⟨rfl,rfl,l⟩
 case rest =>
  obtain⟨rfl,rfl,ab⟩:=hcut;rcases HO.o with⟨rfl,rfl⟩|⟨rfl,h1,rfl⟩|⟨rfl,h1,rfl⟩
  ·go_wp2
   go_ret2;exact⟨rfl,ab.o⟩
  ·go_wp2_with fail
   refine(hE.o (by trivial) _).mono ?_;rintro x M ⟨rfl,g⟩;have t:=sM ab g;clear g;have l1:decide ((120:Int)<((iQ s).size:Int))=true:=by simp;omega
   go_wp2
   go_ret2;exact⟨rfl,t.o⟩
  ·go_wp2_with fail
   refine(hE.o (by trivial) _).mono ?_;rintro x M ⟨rfl,g⟩;have t:=sM ab g;clear g;have l1:decide ((120:Int)<((iQ s).size:Int))=false:=by simp;omega
   go_wp2
   go_ret2;exact⟨rfl,t.o⟩
