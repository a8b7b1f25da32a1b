/-
readFloat: the walk.
-/
import Derived.Test.YtcfgbdhpcboikaaGreatDoorSched
namespace Go.Proofs.YtcfgbdhpcboikaaGreatDoor
open Go.Lib (hid)
set_option maxHeartbeats 16000000
set_option maxRecDepth 100000
open Go.RowKit
theorem tS {n:Nat}:n≤n:=Nat.le_refl n
theorem oB (s:ByteArray)(p0 q j:Nat)(r r':RS)(hp:p0≤j)(hj:j<q)(hq:q≤s.size)(hr:aR (aK s p0 j)=r)(h':dS r (s[j]'(by omega))=r'){mant trunc i us dot dig nd ndM dp:Value}
    (e:mant=.int .u64 r'.mant∧trunc=.bool r'.trunc∧i=.int .i64 (j+1:Nat)∧us=.bool false∧dot=.bool r'.dot∧dig=.bool r'.dig∧nd=.int .i64 r'.nd∧ndM=.int .i64 r'.ndM∧dp=.int .i64 r'.dp) :
    aFi s p0 q mant trunc i us dot dig nd ndM dp:=by
  refine⟨j+1,r',by omega,by omega,?_,e⟩;rw[hJ s p0 j hp (by omega),dP,hr,h']
theorem zN (s:ByteArray)(neg:Bool)(p0 q:Nat)(w:World)(hs:s.size≤40)(hsg:vV s neg p0)(N:mI s p0 q)(ev:Int)(hE:aAW s q ev) :
    Calls Tryz.prog 234 #[.string s] w fun e w'=>e=.returned (.tuple #[.int .u64 (aR (aK s p0 q)).mant,.int .i64 ((aR (aK s p0 q)).expo ev),.bool neg,.bool (aR (aK s p0 q)).trunc,.bool false,.int .i64 s.size,.bool true])∧w=w':=by
  obtain⟨h0,hsg⟩:=hsg;have hlt:=N.lt;have hle:=N.le;have HN:=hid N;have HS:=hid hsg;have hne:¬s=ByteArray.empty:=by rintro rfl;simp at h0
  have HE:=hid hE;have hdig:=N.dig;have BB:=aAv s p0 q N q (Nat.le_of_lt hlt) tS;obtain⟨R,hR⟩:∃R,R=aR (aK s p0 q):=⟨_,rfl⟩
  rw[←hR];rw[←hR]at hdig BB
  have HRR:=hid hR;have HDG:=hid hdig;have HBB:=hid BB;clear N hsg hE hR hdig BB;go_enter Tryz.func234,Tryz.ntmps234
  go_wp2_with fail
  go_step3
  go_upto_block 0 with fail
  go_cut [4,7] (fun a b wx=>a=.bool neg∧b=.int .i64 p0∧wx=w)
  case first =>
    as_aux_lemma =>
      rcases HS.out with⟨rfl,rfl,g1,g2⟩|⟨rfl,rfl,g1,g2⟩
      all_goals
        as_aux_lemma =>
          go_wp2_with fail
          go_meet
          case rel=>exact⟨rfl,rfl,rfl⟩
  case rest =>
    as_aux_lemma =>
      obtain⟨rfl,rfl,rfl⟩:=hcut;go_upto_region 12 with fail
      go_cut [54] (fun a wx=>a=.bool false∧wx=wc)
      case first =>
        as_aux_lemma =>
          by_cases h2:p0+2<s.size
          · by_cases h48:s[p0].toNat=48
            · have hl:=aLR s[p0+1] (by
                by_cases e:p0+1<q
                · exact .inl (HN.out.ch (p0+1) (by omega) (by omega) e)
                · have eq:q=p0+1:=by omega
                  subst eq;exact .inr (HN.out.stop (by omega)))
              go_wp2_with (go_at_call 251;refine(zS _ _).mono ?_;rintro e w' ⟨rfl,rfl⟩)
              go_meet
              case rel=>exact⟨rfl,rfl⟩
            · go_wp2_with fail
              go_meet
              case rel=>exact⟨rfl,rfl⟩
          · go_wp2_with fail
            go_meet
            case rel=>exact⟨rfl,rfl⟩
      case rest =>
        as_aux_lemma =>
          obtain⟨rfl,rfl⟩:=hcut;go_wp2_with fail
          go_step3
          go_upto_block 1 with fail
          go_cut [2,5,7,9,13,14,15,16,17] (fun mant trunc i us dot dig nd ndM dp wx=>aMU s p0 q mant trunc i us dot dig nd ndM dp∧wx=wc)
          case first =>
            as_aux_lemma =>
              go_wp2_with fail
              go_loopg [2,5,7,9,13,14,15,16,17] (q-p0) (fun g mant trunc i us dot dig nd ndM dp wx=>aFi s p0 q mant trunc i us dot dig nd ndM dp∧g=q-(intOf i).toNat∧wx=wc)
              case atStart=>exact⟨⟨p0,rs0,Nat.le_refl _,by omega,by rw[gD];rfl,rfl,rfl,rfl,rfl,rfl,rfl,rfl,rfl,rfl⟩,rfl,rfl⟩
              case round =>
                as_aux_lemma =>
                  obtain⟨⟨j,r,hp,hj,hr,rfl,rfl,rfl,rfl,rfl,rfl,rfl,rfl,rfl⟩,hg,rfl⟩:=hrel;have B:=aAv s p0 q HN.out j hp hj;rw[hr]at B
                  obtain⟨mant,nd,ndM,dp,dot,dig,trunc⟩:=r;obtain⟨b1,b2,b3,b4,b5⟩:=B;dsimp only at b1 b2 b3 b4 b5
                  have HR:=hid hr;have HG:=hid hg;clear hr hg;have c1:nd≤40:=by omega
                  have c2:ndM≤nd:=by omega
                  have c3:ndM≤19:=by omega
                  have c4:-40≤dp:=by omega
                  have c5:dp≤40:=by omega
                  have HM:=hid b3;have HN2:=hid b2;clear b1 b2 b3 b4 b5;by_cases hjq:j<q
                  · have hjs:j<s.size:=by omega
                    have hch:=HN.out.ch j hjs hp hjq;by_cases h46:s[j]=46
                    · have hd:=HN.out.dots j hjs hp hjq h46
                      rw[HR.out]at hd
                      dsimp only at hd
                      subst hd;have f1:((s[j].toNat:Int)==95)=false:=by rw[h46];rfl
                      have f2:((s[j].toNat:Int)==46)=true:=by rw[h46];rfl
                      have H46:=hid h46;clear hch h46;as_aux_lemma =>
                        go_wp2_with fail
                        go_roundg (q-(j+1))
                        case measure=>have:=HG.out;simp[intOf]at this;omega
                        case rel=>exact⟨oB s p0 q j _ ⟨mant,nd,ndM,nd,true,dig,trunc⟩ hp hjq hle HR.out (by unfold dS;rw[if_pos H46.out]) ⟨rfl,rfl,by go_num,rfl,rfl,rfl,rfl,rfl,rfl⟩,by simp[intOf],rfl⟩
                    · have hdig:aS s[j]=true:=by simpa [dE,h46]using hch
                      obtain⟨d1,d2⟩:=eQ s[j] hdig;have f1:((s[j].toNat:Int)==95)=false:=by simp;omega
                      have f2:((s[j].toNat:Int)==46)=false:=by simp;omega
                      have H46:=hid h46;clear hch h46 hdig;by_cases h48:s[j]=48
                      · have f3:((s[j].toNat:Int)==48)=true:=by rw[h48];rfl
                        have f5:((s[j].toNat:Int) !=48)=false:=by rw[h48];rfl
                        have H48:=hid h48;clear h48;by_cases hnd:nd=0
                        · have f4:((nd:Int)==0)=true:=by simp[hnd]
                          have HND:=hid hnd;clear hnd;as_aux_lemma =>
                            go_wp2_with fail
                            go_roundg (q-(j+1))
                            case measure=>have:=HG.out;simp[intOf]at this;omega
                            case rel=>exact⟨oB s p0 q j _ ⟨mant,nd,ndM,dp-1,dot,true,trunc⟩ hp hjq hle HR.out (by unfold dS;rw[if_neg H46.out,if_pos ⟨H48.out,HND.out⟩]) ⟨by go_num,by first|rfl|simp,by go_num,rfl,rfl,rfl,by go_num,by go_num,by go_num⟩,by simp[intOf],rfl⟩
                        · have f4:((nd:Int)==0)=false:=by simp;omega
                          have HND:=hid hnd;clear hnd;have hz:s[j].toNat-48=0:=by rw[H48.out];rfl
                          have HZ:=hid hz;clear hz;by_cases hM:ndM<19
                          · have hm:mant≤999999999999999999:=by have:=HM.out;have:=aLE ndM (by omega);omega
                            as_aux_lemma =>
                              go_wp2_with fail
                              go_roundg (q-(j+1))
                              case measure=>have:=HG.out;simp[intOf]at this;omega
                              case rel=>exact⟨oB s p0 q j _ ⟨mant*10+(s[j].toNat-48),nd+1,ndM+1,dp,dot,true,trunc⟩ hp hjq hle HR.out (by unfold dS;rw[if_neg H46.out,if_neg (fun h=>HND.out h.2),if_pos hM]) ⟨by go_num,by first|rfl|simp,by go_num,rfl,rfl,rfl,by go_num,by go_num,by go_num⟩,by simp[intOf],rfl⟩
                          · have hb:(trunc||s[j] !=48)=trunc:=by rw[H48.out];simp
                            have HBB:=hid hb;clear hb;as_aux_lemma =>
                              go_wp2_with fail
                              go_roundg (q-(j+1))
                              case measure=>have:=HG.out;simp[intOf]at this;omega
                              case rel=>exact⟨oB s p0 q j _ ⟨mant,nd+1,ndM,dp,dot,true,trunc⟩ hp hjq hle HR.out (by unfold dS;rw[if_neg H46.out,if_neg (fun h=>HND.out h.2),if_neg hM,HBB.out]) ⟨by go_num,by first|rfl|simp,by go_num,rfl,rfl,rfl,by go_num,by go_num,by go_num⟩,by simp[intOf],rfl⟩
                      · have f3:((s[j].toNat:Int)==48)=false:=by simp;intro e;exact h48 (UInt8.toNat_inj.1 (by simp at e ⊢;omega))
                        have f5:((s[j].toNat:Int) !=48)=true:=by simp;intro e;exact h48 (UInt8.toNat_inj.1 (by simp at e ⊢;omega))
                        have H48:=hid h48;clear h48;by_cases hM:ndM<19
                        · have hm:mant≤999999999999999999:=by have:=HM.out;have:=aLE ndM (by omega);omega
                          as_aux_lemma =>
                            go_wp2_with fail
                            go_roundg (q-(j+1))
                            case measure=>have:=HG.out;simp[intOf]at this;omega
                            case rel=>exact⟨oB s p0 q j _ ⟨mant*10+(s[j].toNat-48),nd+1,ndM+1,dp,dot,true,trunc⟩ hp hjq hle HR.out (by unfold dS;rw[if_neg H46.out,if_neg (fun h=>H48.out h.1),if_pos hM]) ⟨by go_num,by first|rfl|simp,by go_num,rfl,rfl,rfl,by go_num,by go_num,by go_num⟩,by simp[intOf],rfl⟩
                        · have hb:(trunc||s[j] !=48)=true:=by simp[H48.out]
                          have HBB:=hid hb;clear hb;as_aux_lemma =>
                            go_wp2_with fail
                            go_roundg (q-(j+1))
                            case measure=>have:=HG.out;simp[intOf]at this;omega
                            case rel=>exact⟨oB s p0 q j _ ⟨mant,nd+1,ndM,dp,dot,true,true⟩ hp hjq hle HR.out (by unfold dS;rw[if_neg H46.out,if_neg (fun h=>H48.out h.1),if_neg hM,HBB.out]) ⟨by go_num,by first|rfl|simp,by go_num,rfl,rfl,rfl,by go_num,by go_num,by go_num⟩,by simp[intOf],rfl⟩
                  · obtain rfl:j=q:=by omega
                    by_cases hqs:j=s.size
                    · have hnl:¬j<s.size:=by omega
                      have HQ:=hid hqs;clear hqs;as_aux_lemma =>
                        go_wp2_with fail
                        go_meet
                        case rel=>exact⟨⟨_,HR.out,rfl,rfl,rfl,rfl,rfl,rfl,rfl,rfl,rfl⟩,rfl⟩
                    · have hjs:j<s.size:=by omega
                      rcases HN.out.stop hjs with he|he
                      all_goals
                        have f1:((s[j].toNat:Int)==95)=false:=by rw[he];rfl
                        have f2:((s[j].toNat:Int)==46)=false:=by rw[he];rfl
                        have d1:57<s[j].toNat:=by rw[he];decide
                        clear he;as_aux_lemma =>
                          go_wp2_with fail
                          go_meet
                          case rel=>exact⟨⟨_,HR.out,rfl,rfl,rfl,rfl,rfl,rfl,rfl,rfl,rfl⟩,rfl⟩
          case rest =>
            as_aux_lemma =>
              obtain⟨⟨r,hr,rfl,rfl,rfl,rfl,rfl,rfl,rfl,rfl,rfl⟩,rfl⟩:=hcut;rw[←HRR.out]at hr
              subst hr;have hd:=HDG.out;have hb:=HBB.out;obtain⟨b1,b2,b3,b4,b5⟩:=hb;have HM:=hid b3;clear b3;have c1:R.nd≤40:=by omega
              have c3:R.ndM≤19:=by omega
              have c4:-40≤R.dp:=by omega
              have c5:R.dp≤40:=by omega
              clear b1 b2 b4 b5;go_upto_if 142 with fail
              go_cut [13,17] (fun d dp wx=>d=.bool R.dot∧dp=.int .i64 R.place∧wx=wc)
              case first =>
                as_aux_lemma =>
                  cases hdot:R.dot
                  · have e:=hid hdot
                    clear hdot;as_aux_lemma =>
                      go_wp2_with fail
                      go_meet
                      case rel=>exact⟨by rw[e.out],by unfold RS.place;rw[e.out];rfl,rfl⟩
                  · have e:=hid hdot
                    clear hdot;as_aux_lemma =>
                      go_wp2_with fail
                      go_meet
                      case rel=>exact⟨by rw[e.out],by unfold RS.place;rw[e.out];rfl,rfl⟩
              case rest =>
                as_aux_lemma =>
                  obtain⟨rfl,rfl,rfl⟩:=hcut;have p1:-40≤R.place:=by unfold RS.place;split<;>omega
                  have p2:R.place≤40:=by unfold RS.place;split<;>omega
                  go_upto_region 57 with fail
                  have hq1:=HE.out;rcases hq1 with⟨hq,rfl⟩|⟨hq,t,es,hsg,htl,hds,rfl⟩
                  · have hnl:¬q<s.size:=by omega
                    have HQ:=hid hq;clear hq;by_cases hm:R.mant=0
                    · have f1:((R.mant:Int) !=0)=false:=by simp[hm]
                      have HMM:=hid hm;clear hm;as_aux_lemma =>
                        go_wp2_with fail
                        rw[Exit.noGoto_ret];refine bodyPost_ret (v:=.tuple #[.int .u64 R.mant,.int .i64 0,.bool neg,.bool R.trunc,.bool false,.int .i64 q,.bool true]) (by simp[results,Tryz.results234,go_sem]) rfl ⟨?_,rfl⟩;unfold RS.expo;rw[if_pos HMM.out,HQ.out]
                    · have f1:((R.mant:Int) !=0)=true:=by simp[hm]
                      have HMM:=hid hm;clear hm;as_aux_lemma =>
                        go_wp2_with fail
                        rw[Exit.noGoto_ret];refine bodyPost_ret (v:=.tuple #[.int .u64 R.mant,.int .i64 (R.place-R.ndM),.bool neg,.bool R.trunc,.bool false,.int .i64 q,.bool true]) (by simp[results,Tryz.results234,go_sem]) rfl ⟨?_,rfl⟩;unfold RS.expo;rw[if_neg HMM.out,HQ.out,Int.add_zero]
                  · have hqs:q<s.size:=by omega
                    have hl:=aLk s[q] (HN.out.stop hqs);go_upto_if 161 with(go_at_call 251;refine(zS _ _).mono ?_;rintro e w' ⟨rfl,rfl⟩)
                    go_cut [7,9,17] (fun i us dp wx=>i=.int .i64 s.size∧us=.bool false∧dp=.int .i64 (R.place+(cK (aK s t s.size):Nat)*es)∧wx=wc)
                    case first =>
                      as_aux_lemma =>
                        have hds0:=hds t htl tS;have HDS:=hid hds;rcases hsg with⟨rfl,rfl,hc⟩|⟨rfl,rfl,hc⟩|⟨rfl,rfl,hc⟩
                        · have hb:=eQ _ hc
                          have f1:((s[q+1].toNat:Int)==43)=false:=by simp;omega
                          have f2:((s[q+1].toNat:Int)==45)=false:=by simp;omega
                          have f3:=hb.1;have f4:=hb.2;clear hb hc hds0 hds hl;go_wp2_with fail
                          go_loopg [7,9,20] (s.size-(q+1)) (fun g i us e wx=>∃j,q+1≤j∧j≤s.size∧i=.int .i64 (j:Nat)∧us=.bool false∧e=.int .i64 (cK (aK s (q+1) j):Nat)∧g=s.size-j∧wx=wc)
                          case atStart=>exact⟨q+1,Nat.le_refl _,by omega,by go_num,rfl,by rw[gD];rfl,rfl,rfl⟩
                          case round =>
                            as_aux_lemma =>
                              obtain⟨j,hj1,hj2,rfl,rfl,rfl,hg,rfl⟩:=hrel;have HG:=hid hg;have ef:=mC s (q+1) j hj1 hj2 HDS.out;obtain⟨E,hEE⟩:∃E,E=cK (aK s (q+1) j):=⟨_,rfl⟩
                              rw[←hEE]at ef
                              rw[←hEE];have HE2:=hid hEE;clear hg hEE;by_cases hlt:j<s.size
                              · have hb:=eQ _ (HDS.out j hlt hj1)
                                have g1:((s[j].toNat:Int)==95)=false:=by simp;omega
                                have g3:=hb.1;have g4:=hb.2;clear hb;have hnx:cK (aK s (q+1) (j+1))=eT E s[j]:=by rw[hJ s (q+1) j hj1 hlt,gX,←HE2.out]
                                have HNX:=hid hnx;clear hnx;by_cases he:E<10000
                                · as_aux_lemma =>
                                    go_wp2_with fail
                                    go_roundg (s.size-(j+1))
                                    case measure=>have:=HG.out;omega
                                    case rel=>exact⟨j+1,by omega,by omega,by go_num,rfl,by rw[HNX.out];unfold eT;rw[if_pos he];go_num,rfl,rfl⟩
                                · as_aux_lemma =>
                                    go_wp2_with fail
                                    go_roundg (s.size-(j+1))
                                    case measure=>have:=HG.out;omega
                                    case rel=>exact⟨j+1,by omega,by omega,by go_num,rfl,by rw[HNX.out];unfold eT;rw[if_neg he],rfl,rfl⟩
                              · have hje:s.size=j:=by omega
                                have HJE:=hid hje;clear hje;as_aux_lemma =>
                                  go_wp2_with fail
                                  go_meet
                                  case rel=>exact⟨by rw[HJE.out],rfl,by rw[HJE.out,←HE2.out];go_num,rfl⟩
                        · have hb:=eQ _ (hds (q+1+1) (by omega) (by omega))
                          have f1:((s[q+1].toNat:Int)==43)=true:=by rw[hc];rfl
                          have f3:=hb.1;have f4:=hb.2;clear hb hc hds0 hds hl;go_wp2_with fail
                          go_loopg [7,9,20] (s.size-(q+2)) (fun g i us e wx=>∃j,q+2≤j∧j≤s.size∧i=.int .i64 (j:Nat)∧us=.bool false∧e=.int .i64 (cK (aK s (q+2) j):Nat)∧g=s.size-j∧wx=wc)
                          case atStart=>exact⟨q+2,Nat.le_refl _,by omega,by go_num,rfl,by rw[gD];rfl,rfl,rfl⟩
                          case round =>
                            as_aux_lemma =>
                              obtain⟨j,hj1,hj2,rfl,rfl,rfl,hg,rfl⟩:=hrel;have HG:=hid hg;have ef:=mC s (q+2) j hj1 hj2 HDS.out;obtain⟨E,hEE⟩:∃E,E=cK (aK s (q+2) j):=⟨_,rfl⟩
                              rw[←hEE]at ef
                              rw[←hEE];have HE2:=hid hEE;clear hg hEE;by_cases hlt:j<s.size
                              · have hb:=eQ _ (HDS.out j hlt hj1)
                                have g1:((s[j].toNat:Int)==95)=false:=by simp;omega
                                have g3:=hb.1;have g4:=hb.2;clear hb;have hnx:cK (aK s (q+2) (j+1))=eT E s[j]:=by rw[hJ s (q+2) j hj1 hlt,gX,←HE2.out]
                                have HNX:=hid hnx;clear hnx;by_cases he:E<10000
                                · as_aux_lemma =>
                                    go_wp2_with fail
                                    go_roundg (s.size-(j+1))
                                    case measure=>have:=HG.out;omega
                                    case rel=>exact⟨j+1,by omega,by omega,by go_num,rfl,by rw[HNX.out];unfold eT;rw[if_pos he];go_num,rfl,rfl⟩
                                · as_aux_lemma =>
                                    go_wp2_with fail
                                    go_roundg (s.size-(j+1))
                                    case measure=>have:=HG.out;omega
                                    case rel=>exact⟨j+1,by omega,by omega,by go_num,rfl,by rw[HNX.out];unfold eT;rw[if_neg he],rfl,rfl⟩
                              · have hje:s.size=j:=by omega
                                have HJE:=hid hje;clear hje;as_aux_lemma =>
                                  go_wp2_with fail
                                  go_meet
                                  case rel=>exact⟨by rw[HJE.out],rfl,by rw[HJE.out,←HE2.out];go_num,rfl⟩
                        · have hb:=eQ _ (hds (q+1+1) (by omega) (by omega))
                          have f1:((s[q+1].toNat:Int)==43)=false:=by rw[hc];rfl
                          have f2:((s[q+1].toNat:Int)==45)=true:=by rw[hc];rfl
                          have f3:=hb.1;have f4:=hb.2;clear hb hc hds0 hds hl;go_wp2_with fail
                          go_loopg [7,9,20] (s.size-(q+2)) (fun g i us e wx=>∃j,q+2≤j∧j≤s.size∧i=.int .i64 (j:Nat)∧us=.bool false∧e=.int .i64 (cK (aK s (q+2) j):Nat)∧g=s.size-j∧wx=wc)
                          case atStart=>exact⟨q+2,Nat.le_refl _,by omega,by go_num,rfl,by rw[gD];rfl,rfl,rfl⟩
                          case round =>
                            as_aux_lemma =>
                              obtain⟨j,hj1,hj2,rfl,rfl,rfl,hg,rfl⟩:=hrel;have HG:=hid hg;have ef:=mC s (q+2) j hj1 hj2 HDS.out;obtain⟨E,hEE⟩:∃E,E=cK (aK s (q+2) j):=⟨_,rfl⟩
                              rw[←hEE]at ef
                              rw[←hEE];have HE2:=hid hEE;clear hg hEE;by_cases hlt:j<s.size
                              · have hb:=eQ _ (HDS.out j hlt hj1)
                                have g1:((s[j].toNat:Int)==95)=false:=by simp;omega
                                have g3:=hb.1;have g4:=hb.2;clear hb;have hnx:cK (aK s (q+2) (j+1))=eT E s[j]:=by rw[hJ s (q+2) j hj1 hlt,gX,←HE2.out]
                                have HNX:=hid hnx;clear hnx;by_cases he:E<10000
                                · as_aux_lemma =>
                                    go_wp2_with fail
                                    go_roundg (s.size-(j+1))
                                    case measure=>have:=HG.out;omega
                                    case rel=>exact⟨j+1,by omega,by omega,by go_num,rfl,by rw[HNX.out];unfold eT;rw[if_pos he];go_num,rfl,rfl⟩
                                · as_aux_lemma =>
                                    go_wp2_with fail
                                    go_roundg (s.size-(j+1))
                                    case measure=>have:=HG.out;omega
                                    case rel=>exact⟨j+1,by omega,by omega,by go_num,rfl,by rw[HNX.out];unfold eT;rw[if_neg he],rfl,rfl⟩
                              · have hje:s.size=j:=by omega
                                have HJE:=hid hje;clear hje;as_aux_lemma =>
                                  go_wp2_with fail
                                  go_meet
                                  case rel=>exact⟨by rw[HJE.out],rfl,by rw[HJE.out,←HE2.out];go_num,rfl⟩
                    case rest =>
                      as_aux_lemma =>
                        obtain⟨rfl,rfl,rfl,rfl⟩:=hcut;have ef:=mC s t s.size (Nat.le_of_lt htl) tS hds;have hev:-100000≤(cK (aK s t s.size):Nat)*es∧(cK (aK s t s.size):Nat)*es≤100000:=by
                          rcases hsg with⟨_,rfl,_⟩|⟨_,rfl,_⟩|⟨_,rfl,_⟩<;>omega
                        obtain⟨ev,hv⟩:∃ev,ev=((cK (aK s t s.size):Nat):Int)*es:=⟨_,rfl⟩
                        rw[←hv]at hev ⊢
                        obtain⟨v1,v2⟩:=hev;have HV:=hid hv;clear hv ef hds hsg hl;by_cases hm:R.mant=0
                        · have f1:((R.mant:Int) !=0)=false:=by simp[hm]
                          have HMM:=hid hm;clear hm;as_aux_lemma =>
                            go_wp2_with fail
                            rw[Exit.noGoto_ret];refine bodyPost_ret (v:=.tuple #[.int .u64 R.mant,.int .i64 0,.bool neg,.bool R.trunc,.bool false,.int .i64 s.size,.bool true]) (by simp[results,Tryz.results234,go_sem]) rfl ⟨?_,rfl⟩;unfold RS.expo;rw[if_pos HMM.out]
                        · have f1:((R.mant:Int) !=0)=true:=by simp[hm]
                          have HMM:=hid hm;clear hm;as_aux_lemma =>
                            go_wp2_with fail
                            rw[Exit.noGoto_ret];refine bodyPost_ret (v:=.tuple #[.int .u64 R.mant,.int .i64 (R.place+ev-R.ndM),.bool neg,.bool R.trunc,.bool false,.int .i64 s.size,.bool true]) (by simp[results,Tryz.results234,go_sem]) rfl ⟨?_,rfl⟩;have hx:R.expo (((cK (aK s t s.size):Nat):Int)*es)=R.place+ev-R.ndM:=by rw[←HV.out];unfold RS.expo;rw[if_neg HMM.out]
                            rw[hx]
open Go.RowKit
open Go.RowKit
def ltF (a b:Nat):Bool:=FloatKind.f64.format.order a b==some .lt
def gtF (a b:Nat):Bool:=FloatKind.f64.format.order a b==some .gt
open Go.RowKit
def aEg:Ieee.Datum→Int
  | .nan .. => 2
  | .infinity s=>if s then -1 else 1
  | .number .. => 0
def kvD:Ieee.Datum→Int
  | .number s m i=>Ieee.signed s m (i+1074).toNat
  | _=>0
def aDR:Ieee.Datum→Prop
  | .number _ _ i=>-1074≤i
  | _=>True
def cl (a:Nat):Int:=aEg (FloatKind.f64.format.read a)
def kv (a:Nat):Int:=kvD (FloatKind.f64.format.read a)
theorem least:Ieee.Format.leastPlace FloatKind.f64.format=-1074:=by kernel_rfl
theorem yI (a:Nat):aDR (FloatKind.f64.format.read a):=by
  unfold Ieee.Format.read;simp only[];split
  · show -1074≤_
    rw[least];exact Int.le_refl _
  · split
    · show -1074≤_
      rw[least];omega
    · split<;>trivial
theorem wT (s:Bool)(m a b:Nat):Ieee.signed s m (a+b)=Ieee.signed s m a*(2^b:Nat):=by
  unfold Ieee.signed;have e:m <<< (a+b)=(m <<< a)*2^b:=by rw[Nat.shiftLeft_add,Nat.shiftLeft_eq (m <<< a)]
  split
  · rw[e,Int.natCast_mul,Int.neg_mul]
  · rw[e,Int.natCast_mul]
theorem aEs (x y:Int)(c:Nat)(hc:0<c):compare (x*(c:Int)) (y*(c:Int))=compare x y:=by
  have hc':(0:Int)<c:=by omega
  rcases Int.lt_trichotomy x y with h|h|h
  · rw[Int.compare_eq_lt.2 h,Int.compare_eq_lt.2 (Int.mul_lt_mul_of_pos_right h hc')]
  · subst h
    rw[Int.compare_eq_eq.2 rfl,Int.compare_eq_eq.2 rfl]
  · rw[Int.compare_eq_gt.2 h,Int.compare_eq_gt.2 (Int.mul_lt_mul_of_pos_right h hc')]
theorem aCP (s t:Bool)(m n:Nat)(i j:Int)(hi:-1074≤i)(hj:-1074≤j) :
    (Ieee.Datum.number s m i).order (.number t n j)=some (compare (kvD (.number s m i)) (kvD (.number t n j))):=by
  unfold Ieee.Datum.order kvD;simp only[Option.some.injEq];obtain⟨b,hb⟩:∃b:Int,min i j=b:=⟨_,rfl⟩
  rw[hb];obtain⟨u,hu⟩:∃u:Nat,i-b=u:=⟨(i-b).toNat,by omega⟩
  obtain⟨v,hv⟩:∃v:Nat,j-b=v:=⟨(j-b).toNat,by omega⟩
  obtain⟨c,hc⟩:∃c:Nat,b+1074=c:=⟨(b+1074).toNat,by omega⟩
  have e1:(i+1074).toNat=u+c:=by omega
  have e2:(j+1074).toNat=v+c:=by omega
  rw[e1,e2,hu,hv,Int.toNat_natCast,Int.toNat_natCast,wT,wT,aEs _ _ _ (Nat.two_pow_pos c)]
def kM (c1 k1 c2 k2:Int):Int:=if c1<c2 then -1 else if c2<c1 then 1 else if k1<k2 then -1 else if k2<k1 then 1 else 0
def wG (c1 k1 c2 k2:Int):Ordering:=if c1<c2 then .lt else if c2<c1 then .gt else compare k1 k2
theorem aGn (x y:Ieee.Datum)(hx:aDR x)(hy:aDR y):x.order y=if aEg x=2∨aEg y=2 then none else some (wG (aEg x) (kvD x) (aEg y) (kvD y)):=by
  cases x with
  | nan s f =>
    rw[if_pos (.inl rfl)];cases y<;>rfl
  | infinity s =>
    cases y with
    | nan=>rw[if_pos (.inr rfl)];rfl
    | infinity t=>cases s<;>cases t<;>rfl
    | number t n j=>cases s<;>rfl
  | number s m i =>
    cases y with
    | nan=>rw[if_pos (.inr rfl)];rfl
    | infinity t=>cases t<;>rfl
    | number t n j =>
      rw[aCP s t m n i j hx hy,if_neg (by show ¬((0:Int)=2∨(0:Int)=2);omega)];rfl
theorem wI (a b:Nat):FloatKind.f64.format.order a b=if cl a=2∨cl b=2 then none else some (wG (cl a) (kv a) (cl b) (kv b)) :=
  aGn _ _ (yI a) (yI b)
theorem xN:cl 0=0:=by kernel_rfl
theorem aBr:kv 0=0:=by kernel_rfl
theorem aMa (a b c d:Int):wG a b c d=.lt↔kM a b c d=-1:=by
  unfold wG kM;split
  · simp
  · split
    · simp
    · rw[Int.compare_eq_lt]
      split
      · simp[*]
      · split<;>simp[*]
theorem aMS (a b c d:Int):wG a b c d=.gt↔kM a b c d=1:=by
  unfold wG kM;split
  · simp
  · split
    · simp
    · rw[Int.compare_eq_gt]
      split
      · constructor
        · intro h;omega
        · intro h;cases h
      · split<;>simp[*]
theorem aLH (a b c d:Int):wG a b c d=.eq↔kM a b c d=0:=by
  unfold wG kM;split
  · simp
  · split
    · simp
    · rw[Int.compare_eq_eq]
      split
      · constructor
        · intro h;omega
        · intro h;cases h
      · split
        · constructor
          · intro h;omega
          · intro h;cases h
        · constructor
          · intro _;rfl
          · intro _;omega
theorem aHq (a b:Nat):ltF a b=true↔(cl a≠2∧cl b≠2)∧kM (cl a) (kv a) (cl b) (kv b)=-1:=by
  unfold ltF;rw[wI];by_cases h:cl a=2∨cl b=2
  · rw[if_pos h]
    constructor
    · intro h';cases h'
    · rintro⟨⟨h1,h2⟩,_⟩;rcases h with h|h<;>contradiction
  · rw[if_neg h]
    have h':=not_or.1 h;rw[beq_iff_eq,Option.some.injEq,aMa];exact⟨fun x=>⟨⟨h'.1,h'.2⟩,x⟩,fun x=>x.2⟩
theorem aDJ (a b:Nat):gtF a b=true↔(cl a≠2∧cl b≠2)∧kM (cl a) (kv a) (cl b) (kv b)=1:=by
  unfold gtF;rw[wI];by_cases h:cl a=2∨cl b=2
  · rw[if_pos h]
    constructor
    · intro h';cases h'
    · rintro⟨⟨h1,h2⟩,_⟩;rcases h with h|h<;>contradiction
  · rw[if_neg h]
    have h':=not_or.1 h;rw[beq_iff_eq,Option.some.injEq,aMS];exact⟨fun x=>⟨⟨h'.1,h'.2⟩,x⟩,fun x=>x.2⟩
theorem aHT (a b:Nat):(FloatKind.f64.format.order a b==some .eq)=true↔(cl a≠2∧cl b≠2)∧kM (cl a) (kv a) (cl b) (kv b)=0:=by
  rw[wI];by_cases h:cl a=2∨cl b=2
  · rw[if_pos h]
    constructor
    · intro h';cases h'
    · rintro⟨⟨h1,h2⟩,_⟩;rcases h with h|h<;>contradiction
  · rw[if_neg h]
    have h':=not_or.1 h;rw[beq_iff_eq,Option.some.injEq,aLH];exact⟨fun x=>⟨⟨h'.1,h'.2⟩,x⟩,fun x=>x.2⟩
open Go.RowKit
theorem aHp (a:ByteArray)(l:List UInt8)(h:a.data.toList=l):a=⟨l.toArray⟩:=by
  subst h;rfl
theorem mE (a b:ByteArray):(a++b).data.toList=a.data.toList++b.data.toList:=by simp
theorem mJ {a:ByteArray}{l:List UInt8}(h:a.data.toList=l):Ending.returned (.string a)=.returned (.string ⟨l.toArray⟩):=by rw[aHp a l h]
theorem xB (n:Int)(w:World)(T:aC w)(h0:-9223372036854775808≤n)(h1:n≤9223372036854775807) :
    Calls Tryz.prog 116 #[.int .i64 n] w fun e w'=>e=.returned (.string ⟨(Lib.itoa n).toArray⟩)∧Below w.heap.size w w':=by
  refine(Tryz.strconv_Itoa n h0 h1 w T.u10).mono ?_;rintro e w' ⟨rfl,k,os,rfl⟩;refine⟨rfl,rfl,rfl,rfl,?_,?_⟩
  · show w.heap.size≤(w.heap++os).size
    simp
  · intro j hj
    show(w.heap++os)[j]?=w.heap[j]?;rw[Array.getElem?_append_left hj]
theorem tO (n:Int)(h0:-9223372036854775808≤n)(h1:n≤9223372036854775807):(Lib.itoa n).length≤21:=by
  unfold Lib.itoa;split
  · rw[List.length_cons,Lib.decDigits_length]
    have:=iP n.natAbs (by omega);omega
  · rw[Lib.decDigits_length]
    have:=iP n.toNat (by omega);omega
structure uP (b:Nat):Prop where
  real:(FloatKind.f64.format.order b b !=some .eq)=false
  fin:vY b=false
  nz:(FloatKind.f64.format.order b 0==some .eq)=false
  pos:(FloatKind.f64.format.order b 0==some .lt)=false
theorem aCz (b:Nat)(txt hd tl:List UInt8)(d:UInt8)(x:Int)(w:World)(T:aC w)(hF:jO b txt)(hP:lI txt [d] x hd tl)(hB:uP b)(hx:x+1 < -5) :
    Calls Tryz.prog 63 #[.float .f64 b] w fun e w'=>e=.returned (.string ⟨(d :: [101,45]++Lib.itoa (-x)).toArray⟩)∧Below w.heap.size w w':=by
  have HF:=hid hF;have HT:=hid T;have HP:=hid hP;have x1:=hP.lo;have x2:=hP.hi;have r1:=hB.real;have r3:=hB.nz;have r4:=hB.pos;have II:=fun w=>gK b false w hB.fin
  have HII:=hid II;obtain⟨s,hs⟩:∃s:ByteArray,s=⟨[d].toArray⟩:=⟨_,rfl⟩
  have hsl:s.data.toList=[d]:=by rw[hs]
  have hsz:s.size=1:=by rw[bF,hsl];rfl
  obtain⟨s1,e1,z1,c1'⟩:=vS s 1 (by omega);have c1:∀w,(Instr.slice 9 (.string s) none (some (.int .i64 1)) none).run Tryz.prog w=.ok (.string s1) w:=c1';rw[hsl]at e1
  have HS:=hid hs;have HSL:=hid hsl;have HE1:=hid e1;clear hF T hP hB II hs hsl e1 c1';go_enter Tryz.func63,Tryz.ntmps63
  go_wp2_with (go_at_call 67;((with_reducible refine(HII.out _).mono ?_);rintro e w' ⟨rfl,rfl⟩))
  refine(kI b txt [d] hd tl x _ HT.out HF.out HP.out).mono ?_;rw[←HS.out];rintro e w2 ⟨rfl,B2⟩;have HB2:=hid B2;have HT2:=hid (HT.out.below B2 tS);clear B2;go_wp2_with fail
  have hil:=tO (1-(x+1)) (by omega) (by omega);refine(xB (1-(x+1)) _ HT2.out (by omega) (by omega)).mono ?_;rintro e w3 ⟨rfl,B3⟩;have HB3:=hid (HB2.out.trans (B3.mono HB2.out.size));clear B3;go_wp2
  go_ret;refine⟨mJ ?_,HB3.out⟩;simp only[mE];rw[HE1.out,show 1-(x+1)=-x by omega];simp
theorem aCL (b:Nat)(txt hd tl:List UInt8)(d:UInt8)(x:Int)(w:World)(T:aC w)(hF:jO b txt)(hP:lI txt [d] x hd tl)(hB:uP b)(hx:21<x+1) :
    Calls Tryz.prog 63 #[.float .f64 b] w fun e w'=>e=.returned (.string ⟨(d :: [101,43]++Lib.itoa x).toArray⟩)∧Below w.heap.size w w':=by
  have HF:=hid hF;have HT:=hid T;have HP:=hid hP;have x1:=hP.lo;have x2:=hP.hi;have r1:=hB.real;have r3:=hB.nz;have r4:=hB.pos;have II:=fun w=>gK b false w hB.fin
  have HII:=hid II;obtain⟨s,hs⟩:∃s:ByteArray,s=⟨[d].toArray⟩:=⟨_,rfl⟩
  have hsl:s.data.toList=[d]:=by rw[hs]
  have hsz:s.size=1:=by rw[bF,hsl];rfl
  obtain⟨s1,e1,z1,c1'⟩:=vS s 1 (by omega);have c1:∀w,(Instr.slice 9 (.string s) none (some (.int .i64 1)) none).run Tryz.prog w=.ok (.string s1) w:=c1';rw[hsl]at e1
  have HS:=hid hs;have HSL:=hid hsl;have HE1:=hid e1;clear hF T hP hB II hs hsl e1 c1';go_enter Tryz.func63,Tryz.ntmps63
  go_wp2_with (go_at_call 67;((with_reducible refine(HII.out _).mono ?_);rintro e w' ⟨rfl,rfl⟩))
  refine(kI b txt [d] hd tl x _ HT.out HF.out HP.out).mono ?_;rw[←HS.out];rintro e w2 ⟨rfl,B2⟩;have HB2:=hid B2;have HT2:=hid (HT.out.below B2 tS);clear B2;go_wp2_with fail
  have hil:=tO x (by omega) (by omega);refine(xB x _ HT2.out (by omega) (by omega)).mono ?_;rintro e w3 ⟨rfl,B3⟩;have HB3:=hid (HB2.out.trans (B3.mono HB2.out.size));clear B3;go_wp2
  go_ret;refine⟨mJ ?_,HB3.out⟩;simp only[mE];rw[HE1.out];simp
theorem aBs (b k:Nat)(txt hd tl:List UInt8)(d:UInt8)(D:List UInt8)(x:Int)(w:World)(T:aC w)(hF:jO b txt)(hP:lI txt (d :: D) x hd tl)(hB:uP b)(hx:x+1 < -5)(hk:D.length=k)(k1:1≤k)(k2:k≤20) :
    Calls Tryz.prog 63 #[.float .f64 b] w fun e w'=>e=.returned (.string ⟨(d :: 46 :: D++[101,45]++Lib.itoa (-x)).toArray⟩)∧Below w.heap.size w w':=by
  have HF:=hid hF;have HT:=hid T;have HP:=hid hP;have x1:=hP.lo;have x2:=hP.hi;have r1:=hB.real;have r3:=hB.nz;have r4:=hB.pos;have II:=fun w=>gK b false w hB.fin
  have HII:=hid II;obtain⟨s,hs⟩:∃s:ByteArray,s=⟨(d :: D).toArray⟩:=⟨_,rfl⟩
  have hsl:s.data.toList=(d :: D):=by rw[hs]
  have hsz:s.size=k+1:=by rw[bF,hsl];simp[hk]
  obtain⟨s1,e1,z1,c1'⟩:=vS s 1 (by omega);have c1:∀w,(Instr.slice 9 (.string s) none (some (.int .i64 1)) none).run Tryz.prog w=.ok (.string s1) w:=c1';rw[hsl]at e1
  obtain⟨s2,e2,z2,c2'⟩:=jD s 1 (by omega);have c2:∀w,(Instr.slice 9 (.string s) (some (.int .i64 1)) none none).run Tryz.prog w=.ok (.string s2) w:=c2';rw[hsl]at e2
  have HE2:=hid e2;clear e2 c2';have HS:=hid hs;have HSL:=hid hsl;have HE1:=hid e1;clear hF T hP hB II hs hsl e1 c1';go_enter Tryz.func63,Tryz.ntmps63
  go_wp2_with (go_at_call 67;((with_reducible refine(HII.out _).mono ?_);rintro e w' ⟨rfl,rfl⟩))
  refine(kI b txt (d :: D) hd tl x _ HT.out HF.out HP.out).mono ?_;rw[←HS.out];rintro e w2 ⟨rfl,B2⟩;have HB2:=hid B2;have HT2:=hid (HT.out.below B2 tS);clear B2;go_wp2_with fail
  have hil:=tO (1-(x+1)) (by omega) (by omega);refine(xB (1-(x+1)) _ HT2.out (by omega) (by omega)).mono ?_;rintro e w3 ⟨rfl,B3⟩;have HB3:=hid (HB2.out.trans (B3.mono HB2.out.size));clear B3;go_wp2
  go_ret;refine⟨mJ ?_,HB3.out⟩;simp only[mE];rw[HE1.out,HE2.out,show 1-(x+1)=-x by omega];simp
theorem aA8 (b k:Nat)(txt hd tl:List UInt8)(d:UInt8)(D:List UInt8)(x:Int)(w:World)(T:aC w)(hF:jO b txt)(hP:lI txt (d :: D) x hd tl)(hB:uP b)(hx:21<x+1)(hk:D.length=k)(k1:1≤k)(k2:k≤20) :
    Calls Tryz.prog 63 #[.float .f64 b] w fun e w'=>e=.returned (.string ⟨(d :: 46 :: D++[101,43]++Lib.itoa x).toArray⟩)∧Below w.heap.size w w':=by
  have HF:=hid hF;have HT:=hid T;have HP:=hid hP;have x1:=hP.lo;have x2:=hP.hi;have r1:=hB.real;have r3:=hB.nz;have r4:=hB.pos;have II:=fun w=>gK b false w hB.fin
  have HII:=hid II;obtain⟨s,hs⟩:∃s:ByteArray,s=⟨(d :: D).toArray⟩:=⟨_,rfl⟩
  have hsl:s.data.toList=(d :: D):=by rw[hs]
  have hsz:s.size=k+1:=by rw[bF,hsl];simp[hk]
  obtain⟨s1,e1,z1,c1'⟩:=vS s 1 (by omega);have c1:∀w,(Instr.slice 9 (.string s) none (some (.int .i64 1)) none).run Tryz.prog w=.ok (.string s1) w:=c1';rw[hsl]at e1
  obtain⟨s2,e2,z2,c2'⟩:=jD s 1 (by omega);have c2:∀w,(Instr.slice 9 (.string s) (some (.int .i64 1)) none none).run Tryz.prog w=.ok (.string s2) w:=c2';rw[hsl]at e2
  have HE2:=hid e2;clear e2 c2';have HS:=hid hs;have HSL:=hid hsl;have HE1:=hid e1;clear hF T hP hB II hs hsl e1 c1';go_enter Tryz.func63,Tryz.ntmps63
  go_wp2_with (go_at_call 67;((with_reducible refine(HII.out _).mono ?_);rintro e w' ⟨rfl,rfl⟩))
  refine(kI b txt (d :: D) hd tl x _ HT.out HF.out HP.out).mono ?_;rw[←HS.out];rintro e w2 ⟨rfl,B2⟩;have HB2:=hid B2;have HT2:=hid (HT.out.below B2 tS);clear B2;go_wp2_with fail
  have hil:=tO x (by omega) (by omega);refine(xB x _ HT2.out (by omega) (by omega)).mono ?_;rintro e w3 ⟨rfl,B3⟩;have HB3:=hid (HB2.out.trans (B3.mono HB2.out.size));clear B3;go_wp2
  go_ret;refine⟨mJ ?_,HB3.out⟩;simp only[mE];rw[HE1.out,HE2.out];simp
open Go.RowKit
theorem aCG (n:Nat):Lib.repeatL [48] n=List.replicate n 48:=by
  induction n with
  | zero=>rfl
  | succ n ih=>rw[Lib.repeatL,ih];rfl
theorem aAn (n:Int)(w:World)(h0:0≤n)(h1:n≤1000) :
    Calls Tryz.prog 115 #[.string { data:=#[48] },.int .i64 n] w fun e w'=>e=.returned (.string ⟨(List.replicate n.toNat (48:UInt8)).toArray⟩)∧Below w.heap.size w w':=by
  obtain⟨c,rfl⟩:∃c:Nat,n=c:=⟨n.toNat,by omega⟩
  refine (Tryz.strings_Repeat { data := #[48] } c w (by omega) (by have e : ({ data := #[48] } : ByteArray).size = 1 := rfl
                                                                   rw [e]; omega)).mono ?_
  rintro e w' ⟨rfl,h⟩;refine⟨?_,h⟩;rw[show({ data:=#[48] }:ByteArray).data.toList=[48]from rfl,aCG,Int.toNat_natCast]
theorem aEv (b:Nat)(txt hd tl D:List UInt8)(x:Int)(w:World)(T:aC w)(hF:jO b txt)(hP:lI txt D x hd tl)(hB:uP b)(hk:(D.length:Int)≤x+1)(hx:x+1≤21) :
    Calls Tryz.prog 63 #[.float .f64 b] w fun e w'=>e=.returned (.string ⟨(D++List.replicate (x+1-D.length).toNat 48).toArray⟩)∧Below w.heap.size w w':=by
  obtain⟨k,hkk⟩:∃k,k=D.length:=⟨_,rfl⟩
  rw[←hkk]at hk ⊢
  have HF:=hid hF;have HT:=hid T;have HP:=hid hP;have x1:=hP.lo;have x2:=hP.hi;have r1:=hB.real;have r3:=hB.nz;have r4:=hB.pos;have II:=fun w=>gK b false w hB.fin
  have HII:=hid II;obtain⟨s,hs⟩:∃s:ByteArray,s=⟨D.toArray⟩:=⟨_,rfl⟩
  have hsl:s.data.toList=D:=by rw[hs]
  have hsz:s.size=k:=by rw[bF,hsl,hkk]
  have HS:=hid hs;have HSL:=hid hsl;clear hF T hP hB II hs hsl hkk;go_enter Tryz.func63,Tryz.ntmps63
  go_wp2_with (go_at_call 67;((with_reducible refine(HII.out _).mono ?_);rintro e w' ⟨rfl,rfl⟩))
  refine(kI b txt D hd tl x _ HT.out HF.out HP.out).mono ?_;rw[←HS.out];rintro e w2 ⟨rfl,B2⟩;have HB2:=hid B2;clear B2;obtain⟨r,hr⟩:∃r:ByteArray,r=⟨(List.replicate (x+1-k).toNat (48:UInt8)).toArray⟩:=⟨_,rfl⟩
  have hrl:r.data.toList=List.replicate (x+1-k).toNat 48:=by rw[hr]
  have hrz:r.size≤1000:=by rw[bF,hrl,List.length_replicate];omega
  have HR:=hid hr;have HRL:=hid hrl;clear hr hrl;go_wp2_with fail
  refine(aAn (x+1-k) _ (by omega) (by omega)).mono ?_;rw[←HR.out];rintro e w3 ⟨rfl,B3⟩;have HB3:=hid (HB2.out.trans (B3.mono HB2.out.size));clear B3;go_wp2
  go_ret;refine⟨mJ ?_,HB3.out⟩;simp only[mE];rw[HSL.out,HRL.out]
theorem aGA (b:Nat)(txt hd tl D:List UInt8)(x:Int)(w:World)(T:aC w)(hF:jO b txt)(hP:lI txt D x hd tl)(hB:uP b)(hk:D.length≤30)(h1:1≤D.length)(hx:x+1≤0)(hl:-5≤x+1) :
    Calls Tryz.prog 63 #[.float .f64 b] w fun e w'=>e=.returned (.string ⟨([48,46]++List.replicate (-(x+1)).toNat 48++D).toArray⟩)∧Below w.heap.size w w':=by
  obtain⟨k,hkk⟩:∃k,k=D.length:=⟨_,rfl⟩
  rw[←hkk]at hk h1
  have HF:=hid hF;have HT:=hid T;have HP:=hid hP;have x1:=hP.lo;have x2:=hP.hi;have r1:=hB.real;have r3:=hB.nz;have r4:=hB.pos;have II:=fun w=>gK b false w hB.fin
  have HII:=hid II;obtain⟨s,hs⟩:∃s:ByteArray,s=⟨D.toArray⟩:=⟨_,rfl⟩
  have hsl:s.data.toList=D:=by rw[hs]
  have hsz:s.size=k:=by rw[bF,hsl,hkk]
  have HS:=hid hs;have HSL:=hid hsl;clear hF T hP hB II hs hsl hkk;have hng:¬(k:Int)≤x+1:=by omega
  have hng2:decide ((k:Int)≤x+1)=false:=decide_eq_false hng;have hng3:decide (1≤x+1)=false:=decide_eq_false (by omega);go_enter Tryz.func63,Tryz.ntmps63
  go_wp2_with (go_at_call 67;((with_reducible refine(HII.out _).mono ?_);rintro e w' ⟨rfl,rfl⟩))
  refine(kI b txt D hd tl x _ HT.out HF.out HP.out).mono ?_;rw[←HS.out];rintro e w2 ⟨rfl,B2⟩;have HB2:=hid B2;clear B2;obtain⟨r,hr⟩:∃r:ByteArray,r=⟨(List.replicate (-(x+1)).toNat (48:UInt8)).toArray⟩:=⟨_,rfl⟩
  have hrl:r.data.toList=List.replicate (-(x+1)).toNat 48:=by rw[hr]
  have hrz:r.size≤1000:=by rw[bF,hrl,List.length_replicate];omega
  have HR:=hid hr;have HRL:=hid hrl;clear hr hrl;go_wp2_with fail
  refine(aAn (-(x+1)) _ (by omega) (by omega)).mono ?_;rw[←HR.out];rintro e w3 ⟨rfl,B3⟩;have HB3:=hid (HB2.out.trans (B3.mono HB2.out.size));clear B3;go_wp2
  go_ret;refine⟨mJ ?_,HB3.out⟩;simp only[mE];rw[HSL.out,HRL.out];rfl
theorem aEI (b:Nat)(txt hd tl D:List UInt8)(x:Int)(w:World)(T:aC w)(hF:jO b txt)(hP:lI txt D x hd tl)(hB:uP b)(hk:x+1<(D.length:Int))(hl:1≤x+1)(hx:x+1≤21)(hk3:D.length≤30) :
    Calls Tryz.prog 63 #[.float .f64 b] w fun e w'=>e=.returned (.string ⟨(D.take (x+1).toNat++[46]++D.drop (x+1).toNat).toArray⟩)∧Below w.heap.size w w':=by
  obtain⟨k,hkk⟩:∃k,k=D.length:=⟨_,rfl⟩
  rw[←hkk]at hk hk3
  have HF:=hid hF;have HT:=hid T;have HP:=hid hP;have x1:=hP.lo;have x2:=hP.hi;have r1:=hB.real;have r3:=hB.nz;have r4:=hB.pos;have II:=fun w=>gK b false w hB.fin
  have HII:=hid II;obtain⟨s,hs⟩:∃s:ByteArray,s=⟨D.toArray⟩:=⟨_,rfl⟩
  have hsl:s.data.toList=D:=by rw[hs]
  have hsz:s.size=k:=by rw[bF,hsl,hkk]
  obtain⟨p,hp⟩:∃p:Nat,x+1=p:=⟨(x+1).toNat,by omega⟩
  obtain⟨s1,e1,z1,c1'⟩:=vS s p (by omega);have c1:∀w,(Instr.slice 9 (.string s) none (some (.int .i64 (x+1))) none).run Tryz.prog w=.ok (.string s1) w:=by rw[hp];exact c1'
  rw[hsl]at e1
  obtain⟨s2,e2,z2,c2'⟩:=jD s p (by omega);have c2:∀w,(Instr.slice 9 (.string s) (some (.int .i64 (x+1))) none none).run Tryz.prog w=.ok (.string s2) w:=by rw[hp];exact c2'
  rw[hsl]at e2
  have b1:s1.size≤30:=by omega
  have b2:s2.size≤30:=by omega
  have HE1:=hid e1;have HE2:=hid e2;have HPP:=hid hp;clear e1 e2 c1' c2' hp;have HS:=hid hs;have HSL:=hid hsl;clear hF T hP hB II hs hsl hkk;go_enter Tryz.func63,Tryz.ntmps63
  go_wp2_with (go_at_call 67;((with_reducible refine(HII.out _).mono ?_);rintro e w' ⟨rfl,rfl⟩))
  refine(kI b txt D hd tl x _ HT.out HF.out HP.out).mono ?_;rw[←HS.out];rintro e w2 ⟨rfl,B2⟩;have HB2:=hid B2;clear B2;go_wp2_with fail
  go_quiet (fail)
  go_wp2
  go_ret;refine⟨mJ ?_,HB2.out.trans ⟨rfl,rfl,rfl,Nat.le_refl _,fun _ _=>rfl⟩⟩;simp only[mE];rw[HE1.out,HE2.out,HPP.out,Int.toNat_natCast]
theorem tW (b:Nat)(w:World)(h1:(FloatKind.f64.format.order b b !=some .eq)=false)(h2:vY b=false)(h3:(FloatKind.f64.format.order b 0==some .eq)=true) :
    Calls Tryz.prog 63 #[.float .f64 b] w fun e w'=>e=.returned (.string { data:=#[48] })∧w=w':=by
  have II:=fun w=>gK b false w h2
  have HII:=hid II;clear II h2;go_enter Tryz.func63,Tryz.ntmps63
  go_wp2_with (go_at_call 67;((with_reducible refine(HII.out _).mono ?_);rintro e w' ⟨rfl,rfl⟩))
  go_ret;exact⟨rfl,rfl⟩
theorem aDf:FloatKind.f64.format.fractionBits=52:=by kernel_rfl
theorem aA4:FloatKind.f64.format.binade=4503599627370496:=by kernel_rfl
theorem aE4:FloatKind.f64.format.infRung=2047*4503599627370496:=by kernel_rfl
theorem aDI:FloatKind.f64.format.signWeight=9223372036854775808:=by kernel_rfl
theorem aLT (b:Nat)(h:b<9223372036854775808):aBq b=b:=by
  unfold aBq;have e:bits .andNot .u64 (b:Int) 9223372036854775808=(b:Int):=by
    show IntKind.u64.wrap ((BitVec.ofInt 64 (b:Int) &&& ~~~BitVec.ofInt 64 9223372036854775808).toNat:Int)=_;have p63:(2:Nat)^63=9223372036854775808:=by decide
    rw[BitVec.toNat_and,ofInt_u64 b (by omega),show(~~~BitVec.ofInt 64 9223372036854775808).toNat=2^63-1 by decide,Nat.and_two_pow_sub_one_eq_mod,Nat.mod_eq_of_lt (by omega),dW];omega
  rw[e,Int.toNat_natCast]
open Go.RowKit
open Go.RowKit
open Go.RowKit
def nC (v lo hi:Int):Value:=if v<lo∨hi<v then .tuple #[.int .i64 0,.bool false]else .tuple #[.int .i64 v,.bool true]
structure aFo (s:ByteArray) (v:Int):Prop where
  ne:1≤s.size
  le:s.size≤9
  dig:digs s.data.toList=s.size
  head:s.size=1∨∃h:0<s.size,((s[0].toNat:Int)==48)=false
  val:Lib.atoi s.data.toList=some v
  lo:0≤v
  hi:v≤999999999
theorem aGy (s:ByteArray)(v lo hi:Int)(w:World)(W:aFo s v) :
    Calls Tryz.prog 62 #[.string s,.int .i64 lo,.int .i64 hi] w fun e w'=>e=.returned (nC v lo hi)∧Below w.heap.size w w':=by
  obtain⟨n,hn⟩:∃n,s.size=n:=⟨_,rfl⟩
  have D:=fun w=>dM s n w (by unfold maxLen;have:=W.le;omega) (by rw[W.dig,hn])
  have hs:s=⟨s.data.toList.toArray⟩:=rfl;have AT:=fun w=>aFq s.data.toList v w W.val (by rw[←bF];have:=W.le;omega)
  rw[←hs]at AT
  have n1:=W.ne;have n9:=W.le;rw[hn]at n1 n9
  have hd:=W.head;have hne:((n:Int) !=s.size)=false:=bne_eq_false_iff_eq.2 (by omega);have v1:=W.lo;have v2:=W.hi;have HD:=hid D;have HAT:=hid AT;have hz:1≤s.size:=by omega
  have hz9:s.size≤9:=by omega
  have HN:=hid hn;clear D AT W hs;rcases hd with hd|⟨h0,hd⟩
  · have hnl:¬(1:Int)<n:=by omega
    have HH:=hid hd;clear hd hn;by_cases c1:v<lo
    · go_enter Tryz.func62,Tryz.ntmps62
      go_wp2_with (first
        | (go_at_call 112;((with_reducible refine(HD.out _).mono ?_);rintro e w' ⟨rfl,rfl⟩))
        | (go_at_call 113;((with_reducible refine(HAT.out _).mono ?_);rintro e w' ⟨rfl,B1⟩;have HB:=hid B1;clear B1)))
      go_ret2;exact⟨by unfold nC;rw[if_pos (.inl c1)];rfl,HB.out⟩
    · by_cases c2:hi<v
      · go_enter Tryz.func62,Tryz.ntmps62
        go_wp2_with (first
          | (go_at_call 112;((with_reducible refine(HD.out _).mono ?_);rintro e w' ⟨rfl,rfl⟩))
          | (go_at_call 113;((with_reducible refine(HAT.out _).mono ?_);rintro e w' ⟨rfl,B1⟩;have HB:=hid B1;clear B1)))
        go_ret2;exact⟨by unfold nC;rw[if_pos (.inr c2)];rfl,HB.out⟩
      · go_enter Tryz.func62,Tryz.ntmps62
        go_wp2_with (first
          | (go_at_call 112;((with_reducible refine(HD.out _).mono ?_);rintro e w' ⟨rfl,rfl⟩))
          | (go_at_call 113;((with_reducible refine(HAT.out _).mono ?_);rintro e w' ⟨rfl,B1⟩;have HB:=hid B1;clear B1)))
        go_ret2;exact⟨by unfold nC;rw[if_neg (by omega)];rfl,HB.out⟩
  · clear hn
    by_cases c1:v<lo
    · go_enter Tryz.func62,Tryz.ntmps62
      go_wp2_with (first
        | (go_at_call 112;((with_reducible refine(HD.out _).mono ?_);rintro e w' ⟨rfl,rfl⟩))
        | (go_at_call 113;((with_reducible refine(HAT.out _).mono ?_);rintro e w' ⟨rfl,B1⟩;have HB:=hid B1;clear B1)))
      all_goals go_ret2
      all_goals exact⟨by unfold nC;rw[if_pos (.inl c1)];rfl,HB.out⟩
    · by_cases c2:hi<v
      · go_enter Tryz.func62,Tryz.ntmps62
        go_wp2_with (first
          | (go_at_call 112;((with_reducible refine(HD.out _).mono ?_);rintro e w' ⟨rfl,rfl⟩))
          | (go_at_call 113;((with_reducible refine(HAT.out _).mono ?_);rintro e w' ⟨rfl,B1⟩;have HB:=hid B1;clear B1)))
        all_goals go_ret2
        all_goals exact⟨by unfold nC;rw[if_pos (.inr c2)];rfl,HB.out⟩
      · go_enter Tryz.func62,Tryz.ntmps62
        go_wp2_with (first
          | (go_at_call 112;((with_reducible refine(HD.out _).mono ?_);rintro e w' ⟨rfl,rfl⟩))
          | (go_at_call 113;((with_reducible refine(HAT.out _).mono ?_);rintro e w' ⟨rfl,B1⟩;have HB:=hid B1;clear B1)))
        all_goals go_ret2
        all_goals exact⟨by unfold nC;rw[if_neg (by omega)];rfl,HB.out⟩
open Go.RowKit
open Go.RowKit
theorem rE (s:ByteArray)(lo hi:Int)(w:World)(hm:s.size≤maxLen)(n:Nat)(hn:digs s.data.toList=n)
    (h:n<1∨9<n∨((1≤n∧n≤9)∧n≠s.size)∨((1<n∧n≤9)∧n=s.size∧∃h:0<s.size,s[0].toNat=48)) :
    Calls Tryz.prog 62 #[.string s,.int .i64 lo,.int .i64 hi] w fun e w'=>e=.returned (.tuple #[.int .i64 0,.bool false])∧w=w':=by
  have D:=fun w=>dM s n w hm hn
  have HD:=hid D;clear D hn;rcases h with h|h|⟨⟨h1,h9⟩,h⟩|⟨⟨h1,h9⟩,h,h0,h48⟩
  · as_aux_lemma =>
      go_enter Tryz.func62,Tryz.ntmps62
      go_wp2_with (go_at_call 112;(with_reducible refine(HD.out _).mono ?_);rintro e w' ⟨rfl,rfl⟩)
      go_ret2;exact⟨rfl,rfl⟩
  · have h':¬n<1:=by omega
    as_aux_lemma =>
      go_enter Tryz.func62,Tryz.ntmps62
      go_wp2_with (go_at_call 112;(with_reducible refine(HD.out _).mono ?_);rintro e w' ⟨rfl,rfl⟩)
      go_ret2;exact⟨rfl,rfl⟩
  · have hne:((n:Int) !=s.size)=true:=bne_iff_ne.2 (by omega)
    have HH:=hid h;clear h;as_aux_lemma =>
      go_enter Tryz.func62,Tryz.ntmps62
      go_wp2_with (go_at_call 112;(with_reducible refine(HD.out _).mono ?_);rintro e w' ⟨rfl,rfl⟩)
      go_ret2;exact⟨rfl,rfl⟩
  · have hne:((n:Int) !=s.size)=false:=bne_eq_false_iff_eq.2 (by omega)
    have e0:((s[0].toNat:Int)==48)=true:=by simp[h48]
    have HH:=hid h;clear h;as_aux_lemma =>
      go_enter Tryz.func62,Tryz.ntmps62
      go_wp2_with (go_at_call 112;(with_reducible refine(HD.out _).mono ?_);rintro e w' ⟨rfl,rfl⟩)
      go_ret2;exact⟨rfl,rfl⟩
structure eZ (s:ByteArray) (lo hi:Int) (n:Int) (b:Bool):Prop where
  one:∀w,Calls Tryz.prog 62 #[.string s,.int .i64 lo,.int .i64 hi] w fun e w'=>e=.returned (.tuple #[.int .i64 n,.bool b])∧Below w.heap.size w w'
  dg:b=true→digs s.data.toList=s.size∧s.size≤9
  two:∀w,Calls Tryz.prog 94 #[.string s,.int .i64 lo,.int .i64 hi] w fun e w'=>e=.returned (.tuple #[.int .i64 n,.bool b])∧w=w'
theorem oG {f:Nat}{args:Array Value}{w:World}{v:Value}(h:Calls Tryz.prog f args w fun e w'=>e=.returned v∧w=w') :
    Calls Tryz.prog f args w fun e w'=>e=.returned v∧Below w.heap.size w w' :=
  h.mono fun _ _ ⟨a,b⟩=>⟨a,b▸Below.refl _ _⟩
theorem aFY (s:ByteArray)(h1:1≤s.size)(h9:s.size≤9)(hd:digs s.data.toList=s.size)(h0:s.size=1∨∃h:0<s.size,((s[0].toNat:Int)==48)=false) :
    ∃m:Nat,Lib.decFrom 0 s.data.toList=some m∧aFo s m:=by
  obtain⟨m,h2,h3⟩:=vN s.data.toList s.size (by omega);rw[List.take_of_length_le (by simp)]at h2
  have hp:10^s.size≤10^9:=Nat.pow_le_pow_right (by omega) h9;have p9:(10:Nat)^9=1000000000:=by decide
  have hm9:m≤999999999:=by
    generalize 10^s.size=t at h3 hp;omega
  refine⟨m,h2,⟨h1,h9,hd,h0,?_,by omega,by omega⟩⟩;obtain⟨c,l,e⟩:∃c l,s.data.toList=c :: l:=by
    cases e:s.data.toList with
    | nil => have : s.data.toList.length = 0 := by rw [e]; rfl
             have e2 : s.data.toList.length = s.size := by simp
             omega
    | cons c l=>exact⟨c,l,rfl⟩
  have hc:aS c=true:=by
    have:=rC s.data.toList 0 (by rw[e];simp) (by omega);simpa [e]using this
  obtain⟨c1,c2⟩:=pW c hc;rw[e]at h2 ⊢
  unfold Lib.atoi;have n1:(c==45)=false:=by
    rw[beq_eq_false_iff_ne];rintro rfl;revert c1;decide
  have n2:(c==43)=false:=by
    rw[beq_eq_false_iff_ne];rintro rfl;revert c1;decide
  simp only[n1,n2,Bool.false_eq_true,if_false];unfold Lib.decNat;rw[if_neg (by simp),h2];rfl
theorem aKt (s:ByteArray)(lo hi:Int)(hm:s.size≤maxLen):∃n b,eZ s lo hi n b:=by
  have hle:digs s.data.toList≤s.size:=by have:=sL s.data.toList;simpa using this
  by_cases h0:s.size=0
  · exact⟨0,false,fun w=>oG (rE s lo hi w hm _ rfl (.inl (by omega))),(fun h=>by cases h),fun w=>vO s lo hi w (.inl h0)⟩
  · by_cases h9:9<s.size
    · refine⟨0,false,fun w=>oG (rE s lo hi w hm _ rfl ?_),(fun h=>by cases h),fun w=>vO s lo hi w (.inr h9)⟩
      by_cases c1:digs s.data.toList<1
      · exact .inl c1
      · by_cases c2:9<digs s.data.toList
        · exact .inr (.inl c2)
        · exact .inr (.inr (.inl ⟨⟨by omega,by omega⟩,by omega⟩))
    · by_cases hn:1<s.size∧(s[0]'(by omega)).toNat=48
      · refine⟨0,false,fun w=>oG (rE s lo hi w hm _ rfl ?_),(fun h=>by cases h),fun w=>aAh s lo hi w hn.1 (by omega) hn.2⟩
        by_cases c1:digs s.data.toList<1
        · exact .inl c1
        · by_cases c2:digs s.data.toList=s.size
          · exact .inr (.inr (.inr ⟨⟨by omega,by omega⟩,c2,by omega,hn.2⟩))
          · exact .inr (.inr (.inl ⟨⟨by omega,by omega⟩,c2⟩))
      · have hh:s.size=1∨∃h:0<s.size,((s[0].toNat:Int)==48)=false:=by
          by_cases c:s.size=1
          · exact .inl c
          · refine .inr ⟨by omega,beq_eq_false_iff_ne.2 fun e=>hn ⟨by omega,by omega⟩⟩
        have R:=fun w=>aAZ s lo hi w (by omega) (by omega) hh
        by_cases hd:digs s.data.toList=s.size
        · obtain⟨m,h2,h3⟩:=aFY s (by omega) (by omega) hd hh
          have S:=fun w=>aGy s m lo hi w h3
          rw[if_pos hd,h2,show(some m).get! = m from rfl]at R
          by_cases hb:(m:Int)<lo∨hi<(m:Int)
          · refine⟨0,false,fun w=>?_,(fun h=>by cases h),fun w=>?_⟩
            · have:=S w
              unfold nC at this;rwa[if_pos hb]at this
            · have:=R w
              unfold rA at this;rwa[if_pos hb]at this
          · refine⟨m,true,fun w=>?_,(fun _=>⟨hd,by omega⟩),fun w=>?_⟩
            · have:=S w
              unfold nC at this;rwa[if_neg hb]at this
            · have:=R w
              unfold rA at this;rwa[if_neg hb]at this
        · rw[if_neg hd]at R
          refine⟨0,false,fun w=>oG (rE s lo hi w hm _ rfl ?_),(fun h=>by cases h),R⟩;by_cases c1:digs s.data.toList<1
          · exact .inl c1
          · exact .inr (.inr (.inl ⟨⟨by omega,by omega⟩,hd⟩))
end Go.Proofs.YtcfgbdhpcboikaaGreatDoor
