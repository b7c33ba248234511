import Derived.Test.YtcimoodjlopdaaaGreatDoorProg
import Derived.WalkKit
import Derived.WalkSpells
import Derived.WalkLawsBesides
import Derived.RegionTactic
import Derived.ChangeAlike
import Derived.Deep.QuietTactic
import Derived.BigQuiet
import Derived.Lib.Hide
import Derived.Deep.DeepCutAuto
import Derived.Laws.BytesArg
import Derived.Test.YtcimoodjlopdaaaGreatDoorZ0
namespace Go.Proofs.YtcimoodjlopdaaaGreatDoor
set_option maxRecDepth 100000
set_option maxHeartbeats 8000000
set_option linter.all false
open Go.Proofs.Tryz
open Bool renaming and_eq_true->bT
open Go renaming World->aE,Calls->aQ,Value->bB,below_drewN->bH,maxLen->cA
open Go.Calls renaming quiet_of_same->Wn
open Go.Ending renaming returned->aO
open Go.IntKind renaming i64->aG
open Go.IntWalk renaming i64_in->aP
open Go.Obj renaming cells->aL
open Go.Proofs.Tryz renaming prog->aC,underlying241->Ax,ntmps242->Ql,func242->TP
open Go.RowKit renaming Below->aJ,intOf->aK,Hid->aY
open Go.RowKit.Below renaming refl->aI
open Go.Value renaming string->aA,slice->aB,int->aF,bool->aM,tuple->bO
open Go.World renaming ownsRow_lit->jJ
open Go.World.ownsRow renaming frozenAt->eO,cellAt->gJ,stored->KL
open Int renaming toNat_natCast->gX
open List renaming getD_eq_getElem?_getD->aN,replicate->bY,length_map->cG,getElem?_eq_getElem->cZ,take_of_length_le->dH,drop_of_length_le->jK,eq_of_mem_replicate->nY,map_append->qO,map_singleton->Aw,drop_zero->H4
open Nat renaming le_refl->aD,pow_le_pow_right->bN,lt_of_lt_of_le->bQ,zero_le->bR,mul_comm->cK,pow_succ->dN,mul_le_mul_right->eG,mod_lt->fW,add_mul->gU,eq_zero_or_pos->jL,mul_one->nC,mul_left_comm->wK,one_mul->Ah,add_zero->Bj,add_comm->FL,lt_trichotomy->rn,le_succ->rq
open Option.some renaming injEq->uH
section
open Go Go.RowKit
theorem Yn(a1 a2:Option Addr)(c1 c2 n1 n2:Nat)(xs ys:List Nat)(w:aE)(hn1:xs.length=n1)(hn2:ys.length=n2)(hx:n1≤1000)(hy:n2≤1000)(h1:Rd w a1 xs)(h2:Rd w a2 ys)
 (M N:Nat)(hM:xs=bM RB M)(hN:ys=bM RB N):
 aQ aC 242 #[aB a1 n1 c1,aB a2 n2 c2] w (Rt (aF aG (FU M N)) w):=by
 have hB:=aI w.heap.size w;rcases rn n1 n2 with h|h|h
 ·have hc:=zq (OS (oF cN (by rw[←hM,←hN];omega:(bM RB M).length<(bM RB N).length)));clear hM hN hn1 hn2 h1 h2;go_enter TP,Ql;go_wp2;go_ret;exact⟨by rw[hc.out];rfl,hB⟩
 ·subst h;have pI:=zq hn1;clear hn1;have qE:=zq hn2;clear hn2;have HM:=zq hM;clear hM;have HN:=zq hN;clear hN;have H1:=zq h1;clear h1;have H2:=zq h2;clear h2;have e0:((n1:Int) !=(n1:Int))=false:=by simp
  go_enter TP,Ql;go_wp2;go_loopw[5] (fun v wr=>∃k:Nat,k≤n1∧v=aF aG ((k:Int)-1)∧aJ w.heap.size w wr∧aY (∀i,k≤i→i<n1→xs.getD i 0=ys.getD i 0)) (fun v _=>(aK v+1).toNat);case atStart=>exact⟨n1,aD _,rfl,hB,fun i h1 h2=>by omega⟩
  case round=>
   obtain⟨k,hk,rfl,F4,hz⟩:=hrel;by_cases h0:k=0
   ·subst h0;have hc:=zq (vn (show M=N by
     rw[←cY cN M,←cY cN N,←HM.out,←HN.out];exact CE RB xs ys (by rw[pI.out,qE.out]) (by rw[pI.out];exact fun i hi=>hz.out i (bR _) hi)))
    go_wp2;go_ret;exact⟨by rw[hc.out];rfl,F4⟩
   ·obtain⟨j,rfl⟩:∃j,k=j+1:=⟨k-1,by omega⟩;rw[show((j+1:Nat):Int)-1=(j:Int) by omega];obtain⟨b1,o1,rfl,Il⟩:=(H1.out.below F4) j (by rw[pI.out];omega);obtain⟨b2,o2,rfl,et⟩:=(H2.out.below F4) j (by rw[qE.out];omega);have hcase:=rn (xs.getD j 0) (ys.getD j 0);generalize Dv:xs.getD j 0=X at *;have FE:=zq Dv;clear Dv;generalize Eo:ys.getD j 0=Y at *;have Jp:=zq Eo;clear Eo;have hjn:(j:Int)<n1:=by omega
    rcases hcase with h|h|h
    ·have hc:=zq (OS (show M<N by
      rw[←cY cN M,←cY cN N,←HM.out,←HN.out];exact tF (by decide) xs ys (by rw[HM.out];exact eA cN M) j (by rw[pI.out,qE.out]) (by rw[pI.out];omega) (by rw[pI.out];exact hz.out) (by rw[FE.out,Jp.out];exact h)))
     have hd:decide (X<Y)=true:=by simp;omega
     go_wp2;go_quiet (fail)
     go_wp2;go_ret;exact⟨by rw[hc.out];rfl,bH F4 _⟩
    ·have hz2:aY (∀i,j≤i→i<n1→xs.getD i 0=ys.getD i 0):=fun i h1 h2=>by
      by_cases e:i=j
      ·subst e;rw[FE.out,Jp.out,h]
      ·exact hz.out i (by omega) h2
     have hd:decide (X<Y)=false:=by simp;omega
     have MY:decide (Y<X)=false:=by simp;omega
     have Hh:=zq h;clear h;go_wp2;go_quiet (fail)
     go_wp2;go_quiet (fail)
     go_wp2;go_roundw;case rel=>exact⟨j,by omega,rfl,(by first |exact bH F4 _|exact bH (bH F4 _) _),hz2⟩
     case measure=>simp only[aK];omega
    ·have hc:=zq (WF (show N<M by
      rw[←cY cN M,←cY cN N,←HM.out,←HN.out];exact tF (by decide) ys xs (by rw[HN.out];exact eA cN N) j (by rw[pI.out,qE.out]) (by rw[qE.out];omega) (by rw[qE.out];exact fun i h1 h2=>(hz.out i h1 h2).symm) (by rw[FE.out,Jp.out];exact h)))
     have hd:decide (X<Y)=false:=by simp;omega
     have MY:decide (Y<X)=true:=by simp;omega
     go_wp2;go_quiet (fail)
     go_wp2;go_quiet (fail)
     go_wp2;go_ret;exact⟨by rw[hc.out];rfl,(by first |exact bH F4 _|exact bH (bH F4 _) _)⟩
 ·have hc:=zq (WF (oF cN (by rw[←hM,←hN];omega:(bM RB N).length<(bM RB M).length)));clear hM hN hn1 hn2 h1 h2;go_enter TP,Ql;go_wp2;go_ret;exact⟨by rw[hc.out];rfl,hB⟩
theorem Ri(v1 v2:bB)(M N:Nat)(w:aE)(h1:nR w v1 RB M)(h2:nR w v2 RB N)(hM:(bM RB M).length≤1000)(hN:(bM RB N).length≤1000):
 aQ aC 242 #[v1,v2] w (Rt (aF aG (FU M N)) w):=by
 obtain⟨a1,n1,c1,rfl,q1,_,_,_,q5⟩:=h1;obtain⟨a2,n2,c2,rfl,p1,_,_,_,p5⟩:=h2;exact Yn a1 a2 c1 c2 n1 n2 _ _ w q1 p1 (by omega) (by omega) q5 p5 M N rfl rfl
theorem UO(a1 a2:Option Addr)(c1 c2 n1 n2:Nat)(xs ys:List Nat)(w:aE)(hn1:xs.length=n1)(hn2:ys.length=n2)(hx:n1≤1000)(hy:n2≤n1)(h1:Rd w a1 xs)(h2:Rd w a2 ys)
 (hxl:∀x∈xs,x<RB)(Ct:∀y∈ys,y<RB)(hle:bS RB ys≤bS RB xs):
 aQ aC 240 #[aB a1 n1 c1,aB a2 n2 c2] w fun e w'=>∃v,e=aO v∧mI w' w.heap.size v RB (bS RB xs-bS RB ys)∧aJ w.heap.size w w':=by
 have pI:=zq hn1;clear hn1;have qE:=zq hn2;clear hn2;have J5:=zq hxl;clear hxl;have Rh:=zq Ct;clear Ct;have H1:=zq h1;clear h1;have H2:=zq h2;clear h2;have Hle:=zq hle;clear hle;go_enter func240,ntmps240;go_wp2;go_loopw[5,6,7] (fun v c i wr=>∃(g cap k cc:Nat)(os:List Nat),v=aB (some ⟨g,0,none⟩) k cap∧i=aF aG k∧c=aF aG cc∧cc≤1∧k≤n1∧
  wr.ownsRow w.heap.size 3 1 (aB (some ⟨g,0,none⟩) k cap) k (os.map iv)∧aJ w.heap.size w wr∧aY (os.length=k∧(∀x∈os,x<RB)∧bS RB os+bS RB (ys.take k)=bS RB (xs.take k)+cc*RB^k))
  (fun _ _ i _=>2000-(aK i).toNat)
 case atStart=>
  refine⟨w.heap.size,0,0,0,[],rfl,rfl,rfl,by omega,by omega,?_,?_,?_⟩
  ·exact jJ w #[] 0 (aD _) (by simp[cA]) rfl
  ·exact(aI _ _).alloc (aD _) _
  ·exact⟨rfl,by simp,by simp[bS]⟩
 case round=>
  obtain⟨g,cap,k,cc,os,rfl,rfl,rfl,hcc,hk,hown,hB,hH⟩:=hrel;by_cases hlt:k<n1
  ·obtain⟨b1,o1,rfl,Il⟩:=(H1.out.below hB) k (by rw[pI.out];omega);have hX:xs.getD k 0≤999999:=by have:=eJ J5.out (by decide) k;unfold RB at this;omega
   have hY:ys.getD k 0≤999999:=by have:=eJ Rh.out (by decide) k;unfold RB at this;omega
   have tG:=fun nq=>yF a2 c2 n2 k ys (wr.drewN nq) qE.out ((H2.out.below hB).below (bH (aI _ _) nq)) (by omega);simp only[gX]at tG;have Ep:=zq tG;clear tG;generalize Dv:xs.getD k 0=X at *;have FE:=zq Dv;clear Dv;generalize Eo:ys.getD k 0=Y at *;have Jp:=zq Eo;clear Eo;have e1:IntKind.i64.wrap ((X:Int)-Y)=(X:Int)-Y:=by(first |exact aP _ (by omega))
   have e2:IntKind.i64.wrap ((X:Int)-Y-cc)=(X:Int)-Y-cc:=by(first |exact aP _ (by omega))
   go_wp2;go_quiet ((go_at_call 239;exact Wn ((Ep.out _).mono fun e w'⟨h1,h2⟩=>⟨h1,h2.symm⟩)))
   clear e1 e2;have hB:=bH hB nq;have hown:(wr.drewN nq).ownsRow w.heap.size 3 1 (aB (some ⟨g,0,none⟩) k cap) k (os.map iv):=hown;have uN:=hB.size;generalize wr.drewN nq=wr at *;clear Ep Il;by_cases hneg:(X:Int)-Y-cc<0
   ·go_wp2_with (at_builtin;refine Bp rfl _ _ rfl w.heap.size _ _ _ rfl hown _ rfl rfl (by omega) uN ?_;intro g1 wU w1 eF hg1 gH)
    have gG:aJ w.heap.size w w1:=dB hB gH hown (aD _) uN;clear hown gH hg1 hB;go_wp2;go_roundw;case rel=>
     have ev:aF aG ((X:Int)-Y-cc+1000000)=iv (X+RB-Y-cc):=by unfold RB iv;congr 1;omega
     refine⟨g1,wU,k+1,1,os++[X+RB-Y-cc],rfl,by go_num,rfl,by omega,by omega,?_,gG,?_⟩
     ·rw[qO,Aw,←ev];exact eF
     ·obtain⟨q1,q2,q3⟩:=hH.out;exact⟨by simp[q1],oA q2 (by unfold RB;omega),Bo RB os xs ys k cc _ 1 q1 q3 (by rw[FE.out,Jp.out];unfold RB;omega)⟩
    case measure=>simp only[aK];omega
   ·go_wp2_with (at_builtin;refine Bp rfl _ _ rfl w.heap.size _ _ _ rfl hown _ rfl rfl (by omega) uN ?_;intro g1 wU w1 eF hg1 gH)
    have gG:aJ w.heap.size w w1:=dB hB gH hown (aD _) uN;clear hown gH hg1 hB;go_wp2;go_roundw;case rel=>
     have ev:aF aG ((X:Int)-Y-cc)=iv (X-Y-cc):=by unfold iv;congr 1;omega
     refine⟨g1,wU,k+1,0,os++[X-Y-cc],rfl,by go_num,rfl,by omega,by omega,?_,gG,?_⟩
     ·rw[qO,Aw,←ev];exact eF
     ·obtain⟨q1,q2,q3⟩:=hH.out;exact⟨by simp[q1],oA q2 (by unfold RB;omega),Bo RB os xs ys k cc _ 0 q1 q3 (by rw[FE.out,Jp.out];omega)⟩
    case measure=>simp only[aK];omega
  ·obtain rfl:k=n1:=by omega
   have Il:=dJ hown;obtain⟨q1,q2,q3⟩:=hH.out;have QJ:bS RB os=bS RB xs-bS RB ys:=by
    rw[fQ _ xs _ (by rw[pI.out];omega),fQ _ ys _ (by rw[qE.out];omega)]at q3;exact NB (by decide) os _ _ cc k q2 q1 Hle.out q3
   have hQ:=zq q1;have xD:=Rd.own hown;have pD:=zq (jF cN hown hQ.out q2 QJ);clear q1 q2 q3 QJ hown;go_wp2_with fail
   refine kr (vT (some ⟨g,0,none⟩) cap k os wr hQ.out (by omega) Il.2.2.2 xD (by simp)) ?_;clear xD;go_wp2;go_ret;exact⟨_,rfl,pD.out,hB⟩
theorem Dw(v1 v2:bB)(M N:Nat)(w:aE)(h1:nR w v1 RB M)(h2:nR w v2 RB N)(hM:(bM RB M).length≤1000)(hN:N≤M):
 aQ aC 240 #[v1,v2] w fun e w'=>∃v,e=aO v∧mI w' w.heap.size v RB (M-N)∧aJ w.heap.size w w':=by
 obtain⟨a1,n1,c1,rfl,q1,_,_,_,q5⟩:=h1;obtain⟨a2,n2,c2,rfl,p1,_,_,_,p5⟩:=h2;have hl:=eP cN hN;have:=UO a1 a2 c1 c2 n1 n2 _ _ w q1 p1 (by omega) (by omega) q5 p5 (eA cN M) (eA cN N) (by rw[cY cN,cY cN];exact hN);rwa[cY cN,cY cN]at this
theorem Kz(a b:Nat){K:Nat}(h:a*b≤K):(0:Int)≤(a:Int)*b∧(a:Int)*b≤K:=by
 rw[←Int.natCast_mul];omega
theorem Im{B:Nat}(hB:1≤B){xs ys:List Nat}(hx:∀x∈xs,x<B)(hy:∀y∈ys,y<B)(k n:Nat)(hn:ys.length=n):bS B (xs.take k)*bS B ys<B^(k+n):=by
 have h1:=xB hB hx k;have h2:=zV hB ys hy;rw[hn]at h2;rw[Nat.pow_add];exact Nat.mul_lt_mul'' h1 h2
theorem Jq{B:Nat}(hB:1≤B)(os xs ys:List Nat)(i n2 k c:Nat)(hx:∀x∈xs,x<B)(hy:∀y∈ys,y<B)(hn:ys.length=n2)
 (h:bS B os+c*B^(i+k)=bS B (xs.take i)*bS B ys+xs.getD i 0*bS B (ys.take k)*B^i)(hk:n2+1≤k):c=0:=by
 rw[fQ B ys k (by omega)]at h;have e:bS B (xs.take i)*bS B ys+xs.getD i 0*bS B ys*B^i=bS B (xs.take (i+1))*bS B ys:=by
  rw[gV,gU];simp[cK,wK]
 rw[e]at h;have h1:=Im hB hx hy (i+1) n2 hn;have h2:B^(i+1+n2)≤B^(i+k):=bN hB (by omega);rcases jL c with h0|h0
 ·exact h0
 ·have:1*B^(i+k)≤c*B^(i+k):=eG _ h0;omega
theorem K8(B:Nat)(os xs ys:List Nat)(i n2 k:Nat)(hn:ys.length=n2)(hk:n2≤k)
 (h:bS B os+0*B^(i+k)=bS B (xs.take i)*bS B ys+xs.getD i 0*bS B (ys.take k)*B^i):bS B os=bS B (xs.take (i+1))*bS B ys:=by
 rw[fQ B ys k (by omega),Nat.zero_mul,Bj]at h;rw[h,gV,gU];simp[cK,wK]
theorem iE{w:aE}{base e g n cap:Nat}{os:List Nat}(h:w.ownsRow base e 1 (aB (some ⟨g,0,none⟩) n cap) n (os.map iv)):os.length=n:=by
 have:=h.1;simpa using this
theorem lL{w:aE}{base e g n cap:Nat}{os:List Nat}(h:w.ownsRow base e 1 (aB (some ⟨g,0,none⟩) n cap) n (os.map iv)){j:Nat}(hj:j<n):w.cell? ⟨g,j,none⟩=some (iv (os.getD j 0)):=by
 rw[gJ h j (by omega),Jo os j (by rw[iE h];exact hj)]
theorem tJ{w:aE}{base e g n cap:Nat}{os:List Nat}(h:w.ownsRow base e 1 (aB (some ⟨g,0,none⟩) n cap) n (os.map iv))(j y:Nat):
 (w.setCell ⟨g,j,none⟩ (iv y)).ownsRow base e 1 (aB (some ⟨g,0,none⟩) n cap) n ((os.set j y).map iv):=by
 have:=(KL h j (iv y)).1;rwa[←List.map_set]at this
theorem K9(a1 a2:Option Addr)(c1 c2 n1 n2:Nat)(xs ys:List Nat)(w:aE)(hn1:xs.length=n1)(hn2:ys.length=n2)(hx:n1≤1000)(hy:n2≤1000)(h1:Rd w a1 xs)(h2:Rd w a2 ys)
 (hxl:∀x∈xs,x<RB)(Ct:∀y∈ys,y<RB):
 aQ aC 241 #[aB a1 n1 c1,aB a2 n2 c2] w fun e w'=>∃v,e=aO v∧mI w' w.heap.size v RB (bS RB xs*bS RB ys)∧aJ w.heap.size w w':=by
 have pI:=zq hn1;clear hn1;have qE:=zq hn2;clear hn2;have J5:=zq hxl;clear hxl;have Rh:=zq Ct;clear Ct;have H1:=zq h1;clear h1;have H2:=zq h2;clear h2;go_enter func241,ntmps241;go_wp2_with (at_make;refine yG rfl _ _ rfl w.heap.size _ (n1+n2+1) rfl rfl (by omega) (by omega) (aD _) ?_;intro w1 eF gH)
 have gG:aJ w.heap.size w w1:=(aI _ _).grown gH (aD _) (by simp);generalize Jr:w.heap.size=g at *;have UP:=zq Jr;clear Jr;clear gH;have Rj:aY (∃os:List Nat,w1.ownsRow g 3 1 (aB (some ⟨g,0,none⟩) (n1+n2+1) (n1+n2+1)) (n1+n2+1) (os.map iv)∧(∀x∈os,x<RB)∧bS RB os=bS RB (xs.take 0)*bS RB ys):=
  ⟨_,eF,by intro x hx;rw[nY hx];decide,by rw[Bn];simp[bS]⟩
 clear eF;go_loopw[6] (fun i wr=>∃k:Nat,i=aF aG k∧k≤n1∧aJ g w wr∧aY (∃os:List Nat,wr.ownsRow g 3 1 (aB (some ⟨g,0,none⟩) (n1+n2+1) (n1+n2+1)) (n1+n2+1) (os.map iv)∧(∀x∈os,x<RB)∧bS RB os=bS RB (xs.take k)*bS RB ys))
  (fun i _=>2000-(aK i).toNat)
 case atStart=>exact⟨0,rfl,bR _,gG,Rj⟩
 clear gG Rj;case round=>
  obtain⟨i,rfl,hi,hB,hO⟩:=hrel;obtain⟨wo,rfl⟩:∃wo:aE,wo=wr:=⟨_,rfl⟩;by_cases hlt:i<n1
  ·have hX:xs.getD i 0≤999999:=by have:=eJ J5.out (by decide) i;unfold RB at this;omega
   generalize Dv:xs.getD i 0=X at *;have FE:=zq Dv;clear Dv;have Bq:aY (∃os:List Nat,wo.ownsRow g 3 1 (aB (some ⟨g,0,none⟩) (n1+n2+1) (n1+n2+1)) (n1+n2+1) (os.map iv)∧(∀x∈os,x<RB)∧bS RB os+0*RB^(i+0)=bS RB (xs.take i)*bS RB ys+xs.getD i 0*bS RB (ys.take 0)*RB^i):=by
    obtain⟨os,o1,o2,o3⟩:=hO.out;exact⟨os,o1,o2,by rw[o3];simp[bS]⟩
   clear hO;go_wp2;go_loopw[7,8] (fun c i' wr=>∃(k cc:Nat),i'=aF aG k∧c=aF aG cc∧cc≤999999∧k≤n2+1∧(k=n2+1→cc=0)∧aJ g w wr∧
    aY (∃os:List Nat,wr.ownsRow g 3 1 (aB (some ⟨g,0,none⟩) (n1+n2+1) (n1+n2+1)) (n1+n2+1) (os.map iv)∧(∀x∈os,x<RB)∧bS RB os+cc*RB^(i+k)=bS RB (xs.take i)*bS RB ys+xs.getD i 0*bS RB (ys.take k)*RB^i))
    (fun _ i' _=>2000-(aK i').toNat)
   case atStart=>exact⟨0,0,rfl,rfl,by omega,by omega,fun _=>rfl,hB,Bq⟩
   clear Bq;case round=>
    obtain⟨k,cc,rfl,rfl,hcc,hk,hk0,ss,hO⟩:=hrel;have Hk0:=zq hk0;clear hk0;by_cases hgo:k<n2∨0<cc
    ·have Rm:k≤n2:=by
      rcases hgo with h|h
      ·omega
      ·have:=Hk0.out;omega
     obtain⟨os,o1,o2,o3⟩:=hO.out;clear hO;have hO0:os.getD (i+k) 0≤999999:=by have:=eJ o2 (by decide) (i+k);unfold RB at this;omega
     have hY:ys.getD k 0≤999999:=by have:=eJ Rh.out (by decide) k;unfold RB at this;omega
     have hco:=lL o1 (show i+k<n1+n2+1 by omega);obtain⟨b1,f1,rfl,Il⟩:=(H1.out.below (UP.out.symm▸ss)) i (by rw[pI.out];omega);rw[FE.out]at Il;have tG:=fun nq=>yF a2 c2 n2 k ys (wr.drewN nq) qE.out ((H2.out.below (UP.out.symm▸ss)).below (bH (aI _ _) nq)) (by omega);simp only[gX]at tG;have Ep:=zq tG;clear tG;have hgb:g≤g:=aD g;have hfz:=eO o1 (i+k);generalize In:os.getD (i+k) 0=O at *;have Rn:=zq In;clear In;generalize Eo:ys.getD k 0=Y at *;have Jp:=zq Eo;clear Eo;have hp:=Kz X Y (Nat.mul_le_mul hX hY);obtain⟨hp1,Up⟩:=hp;have J6:=zq o1;clear o1;have Rq:=zq o2;clear o2;have Ho3:=zq o3;clear o3;have e1:IntKind.i64.wrap ((i:Int)+k)=(i:Int)+k:=by(first |exact aP _ (by omega))
     have e2:(0:Int)≤(i:Int)+k:=by omega
     have e3:((i:Int)+k).toNat=i+k:=by omega
     have e4:IntKind.i64.wrap ((X:Int)*Y)=(X:Int)*Y:=by(first |exact aP _ (by omega))
     have e5:IntKind.i64.wrap ((O:Int)+(X:Int)*Y)=(O:Int)+(X:Int)*Y:=by(first |exact aP _ (by omega))
     have e6:IntKind.i64.wrap ((O:Int)+(X:Int)*Y+cc)=(O:Int)+(X:Int)*Y+cc:=by(first |exact aP _ (by omega))
     go_upto_region 7 with fail
     go_cut[30] (fun v w'=>v=aM true∧wr=w');case first =>
      by_cases e:k<n2
      ·go_wp2;go_meet;case rel=>exact⟨rfl,rfl⟩
      ·go_wp2;go_meet;case rel=>exact⟨by simp;omega,rfl⟩
     obtain⟨rfl,rfl⟩:=hcut;go_wp2;go_quiet ((go_at_call 239;exact Wn ((Ep.out _).mono fun e w'⟨h1,h2⟩=>⟨h1,h2.symm⟩)))
     clear e1 e2 e3 e4 e5 e6;have EQ:(0:Int)≤(O:Int)+(X:Int)*Y+cc:=by omega
     have Rr:(O:Int)+(X:Int)*Y+cc≤999999999999:=by omega
     generalize hS:(O:Int)+(X:Int)*Y+cc=S at *;have hSn:S=((O+X*Y+cc:Nat):Int):=by rw[←hS];simp
     have HS:=zq hSn;clear hSn hS;have f1':IntKind.i64.wrap ((i:Int)+k)=(i:Int)+k:=by(first |exact aP _ (by omega))
     clear hp1 Up;go_wp2;go_roundw;case rel=>
      have ev:aF aG (S%1000000)=iv ((O+X*Y+cc)%RB):=by unfold iv;rw[HS.out];unfold RB;congr 1
      have ed:(S/1000000)=(((O+X*Y+cc)/RB:Nat):Int):=by rw[HS.out];unfold RB;omega
      have pU:=EP RB os ys i k cc X (O+X*Y+cc) _ (by rw[iE J6.out];omega) (by rw[←FE.out];exact Ho3.out) (by rw[Rn.out,Jp.out]);have hdl:(O+X*Y+cc)/RB≤999999:=by rw[HS.out]at Rr;unfold RB;omega
      refine⟨k+1,(O+X*Y+cc)/RB,by go_num,by rw[ed],hdl,by omega,?_,?_,os.set (i+k) ((O+X*Y+cc)%RB),?_,yC Rq.out (fW _ (by decide)),?_⟩
      ·intro UN;exact Jq (by decide) _ xs ys i n2 (k+1) _ J5.out Rh.out qE.out (by rw[FE.out];exact pU) (by omega)
      ·exact(bH ss _).setCell (p:=⟨g,i+k,none⟩) hgb _
      ·rw[ev];exact tJ J6.out (i+k) _
      ·rw[FE.out];exact pU
     case measure=>simp only[aK];omega
    ·have hge:¬k<n2:=by omega
     obtain rfl:cc=0:=by omega
     have pV:aY (∃os:List Nat,wr.ownsRow g 3 1 (aB (some ⟨g,0,none⟩) (n1+n2+1) (n1+n2+1)) (n1+n2+1) (os.map iv)∧(∀x∈os,x<RB)∧bS RB os=bS RB (xs.take (i+1))*bS RB ys):=by
      obtain⟨os,o1,o2,o3⟩:=hO.out;exact⟨os,o1,o2,K8 RB os xs ys i n2 k qE.out (by omega) o3⟩
     clear hO;go_wp2;go_roundw;case rel=>exact⟨i+1,by go_num,by omega,ss,pV⟩
     case measure=>simp only[aK];omega
  ·obtain rfl:n1=i:=by omega
   obtain⟨os,o1,o2,o3⟩:=hO.out;clear hO;rw[fQ RB xs _ (by rw[pI.out];omega)]at o3;have Js:=iE o1;have xD:=Rd.own o1;have pD:=zq (jF cN o1 Js o2 o3);have Yo:=zq Js;clear Js;clear o1 o2 o3;go_wp2_with fail
   refine kr (vT (some ⟨g,0,none⟩) (n1+n2+1) (n1+n2+1) os wo Yo.out (aD _) (by simp only[cA];omega) xD (by simp)) ?_;clear xD;go_wp2;go_ret;rw[UP.out];exact⟨_,rfl,pD.out,hB⟩
theorem Yp(v1 v2:bB)(M N:Nat)(w:aE)(h1:nR w v1 RB M)(h2:nR w v2 RB N)(hM:(bM RB M).length≤1000)(hN:(bM RB N).length≤1000):
 aQ aC 241 #[v1,v2] w fun e w'=>∃v,e=aO v∧mI w' w.heap.size v RB (M*N)∧aJ w.heap.size w w':=by
 obtain⟨a1,n1,c1,rfl,q1,_,_,_,q5⟩:=h1;obtain⟨a2,n2,c2,rfl,p1,_,_,_,p5⟩:=h2;have:=K9 a1 a2 c1 c2 n1 n2 _ _ w q1 p1 (by omega) (by omega) q5 p5 (eA cN M) (eA cN N);rwa[cY cN,cY cN]at this
theorem UQ(a1:Option Addr)(c1 n1 d:Nat)(xs:List Nat)(w:aE)(hn1:xs.length=n1)(hx:n1≤1000)(h1:Rd w a1 xs)(hxl:∀x∈xs,x<RB)(hd:0<d)(MY:d≤999999):
 aQ aC 238 #[aB a1 n1 c1,aF aG d] w fun e w'=>∃v u,e=aO (bO #[v,u])∧mI w' w.heap.size v RB (bS RB xs/d)∧mI w' w.heap.size u RB (bS RB xs%d)∧aJ w.heap.size w w':=by
 have pI:=zq hn1;clear hn1;have J5:=zq hxl;clear hxl;have H1:=zq h1;clear h1;go_enter func238,ntmps238;go_wp2_with (at_make;refine yG rfl _ _ rfl w.heap.size _ n1 rfl rfl rfl (by omega) (aD _) ?_;intro w1 eF gH)
 have gG:aJ w.heap.size w w1:=(aI _ _).grown gH (aD _) (by simp);have Dx:w.heap.size<w1.heap.size:=(dJ eF).2.1;generalize Jr:w.heap.size=g at *;have UP:=zq Jr;clear Jr;clear gH;have Rj:aY (∃os:List Nat,w1.ownsRow g 3 1 (aB (some ⟨g,0,none⟩) n1 n1) n1 (os.map iv)∧(∀x∈os,x<RB)∧bS RB (xs.drop n1)=bS RB (os.drop n1)*d+0):=
  ⟨_,eF,by intro x hx;rw[nY hx];decide,by rw[jK (by rw[pI.out];omega),jK (by simp)];simp[bS]⟩
 clear eF;go_loopw[7,8] (fun r i wr=>∃(k rr:Nat),i=aF aG ((k:Int)-1)∧r=aF aG rr∧rr<d∧k≤n1∧aJ g w wr∧g<wr.heap.size∧
  aY (∃os:List Nat,wr.ownsRow g 3 1 (aB (some ⟨g,0,none⟩) n1 n1) n1 (os.map iv)∧(∀x∈os,x<RB)∧bS RB (xs.drop k)=bS RB (os.drop k)*d+rr))
  (fun _ i _=>(aK i+1).toNat)
 case atStart=>exact⟨n1,0,rfl,rfl,hd,aD _,gG,Dx,Rj⟩
 clear gG Rj Dx;case round=>
  obtain⟨k,rr,rfl,rfl,vo,hk,hB,oB,hO⟩:=hrel;by_cases h0:k=0
  ·subst h0;obtain⟨os,o1,o2,o3⟩:=hO.out;clear hO;simp only[H4]at o3;obtain⟨p1,p2⟩:=OT vo o3;have Js:=iE o1;have xD:=Rd.own o1;have pD:=zq (jF cN o1 Js o2 p1);have Yo:=zq Js;clear Js;have Hp2:=zq p2;clear o1 o2 o3 p1 p2;go_wp2_with fail
   refine kr (vT (some ⟨g,0,none⟩) n1 n1 os wr Yo.out (aD _) (by simp only[cA];omega) xD (by simp)) ?_;clear xD;have UR:(wr.alloc (aL #[iv rr] 3)).ownsRow g 3 1 (aB (some ⟨wr.heap.size,0,none⟩) 1 1) 1 ([rr].map iv):=by
    have:=jJ wr (base:=g) (e:=3) (size:=1) #[iv rr] 1 (by omega) (by simp[cA]) rfl;exact this
   have hrd2:=Rd.own UR;have CF:=zq (jF cN UR (os:=[rr]) rfl (by simp;unfold RB;omega) (show bS RB [rr]=bS RB xs%d by simp[bS];exact Hp2.out));have hown2':aY (mI (wr.alloc (aL #[iv rr] 3)) g (aB (some ⟨g,0,none⟩) (jS os).length n1) RB (bS RB xs/d)):=by
    obtain⟨g',n',c',e,o⟩:=pD.out;exact⟨g',n',c',e,o.alloc _⟩
   have eQ:aJ g w (wr.alloc (aL #[iv rr] 3)):=hB.alloc (by omega) _;clear UR pD;go_wp2_with fail
   refine kr (vT (some ⟨wr.heap.size,0,none⟩) 1 1 [rr] _ rfl (aD _) (by simp[cA]) hrd2 (by simp)) ?_;clear hrd2;go_wp2;go_ret2;rw[UP.out];exact⟨_,_,rfl,hown2'.out,CF.out,eQ⟩
  ·obtain⟨j,rfl⟩:∃j,k=j+1:=⟨k-1,by omega⟩;rw[show((j+1:Nat):Int)-1=(j:Int) by omega];obtain⟨b1,f1,rfl,Il⟩:=(H1.out.below (UP.out.symm▸hB)) j (by rw[pI.out];omega);have hX:xs.getD j 0≤999999:=by have:=eJ J5.out (by decide) j;unfold RB at this;omega
   generalize Dv:xs.getD j 0=X at *;have FE:=zq Dv;clear Dv;obtain⟨os,o1,o2,o3⟩:=hO.out;clear hO;have hjn:j<n1:=by omega
   have hco:=lL o1 hjn;have hfz:=eO o1 j;generalize In:os.getD j 0=O at *;clear In;have hgb:g≤g:=aD g;have pU:=zq (KX RB xs os j d rr (rr*RB+X) (by rw[pI.out];omega) (by rw[iE o1];omega) o3 (by rw[FE.out]));have hlt2:=zq (Re (B:=RB) hd vo (show X<RB by unfold RB;omega));have J6:=zq o1;clear o1;have Rq:=zq o2;clear o2;clear o3;have hpos:(0:Int)≤(rr:Int)*1000000+X:=by omega
   go_wp2;go_roundw;case rel=>
    have ed:((rr:Int)*1000000+X)/d=(((rr*RB+X)/d:Nat):Int):=by unfold RB;simp
    have em:((rr:Int)*1000000+X)%d=(((rr*RB+X)%d:Nat):Int):=by unfold RB;simp
    refine⟨j,(rr*RB+X)%d,rfl,by rw[em],fW _ hd,by omega,hB.setCell (p:=⟨g,j,none⟩) hgb _,by simpa using oB,os.set j ((rr*RB+X)/d),?_,yC Rq.out hlt2.out,pU.out⟩;rw[ed];exact tJ J6.out j _
   case measure=>simp only[aK];omega
theorem Yq(v1:bB)(M d:Nat)(w:aE)(h1:nR w v1 RB M)(hM:(bM RB M).length≤1000)(hd:0<d)(MY:d<RB):
 aQ aC 238 #[v1,aF aG d] w fun e w'=>∃v u,e=aO (bO #[v,u])∧mI w' w.heap.size v RB (M/d)∧mI w' w.heap.size u RB (M%d)∧aJ w.heap.size w w':=by
 obtain⟨a1,n1,c1,rfl,q1,_,_,_,q5⟩:=h1;have:=UQ a1 c1 n1 d _ w q1 (by omega) q5 (eA cN M) hd (by unfold RB at MY;omega);rwa[cY cN]at this
theorem Yr(B R X:Nat)(hB:2≤B):bS B (X::bM B R)=R*B+X:=by
 rw[bS,cY hB,FL,cK]
theorem vp{B:Nat}(hB:2≤B)(R X:Nat)(hX:X<B):∀x∈X::bM B R,x<B:=by
 intro x hx;rcases List.mem_cons.1 hx with rfl|h
 ·exact hX
 ·exact eA hB R x h
def Br(w:aE)(g gq n k N R M B:Nat):Prop:=
 ∃os:List Nat,w.ownsRow g 3 1 (aB (some ⟨gq,0,none⟩) n n) n (os.map iv)∧(∀x∈os,x<B)∧bS B ((bM B M).drop k)=bS B (os.drop k)*N+R
theorem Br.below{w w':aE}{g gq n k N R M B:Nat}(h:Br w g gq n k N R M B)(hb:aJ w.heap.size w w'):Br w' g gq n k N R M B:=by
 obtain⟨os,o1,o2,o3⟩:=h;exact⟨os,cT o1 hb,o2,o3⟩
theorem Br.kept{w w':aE}{g gq n k N R M B x:Nat}(h:Br w g gq n k N R M B)(hg:w.grownBy w' (some x))(hx:x≠gq):Br w' g gq n k N R M B:=by
 obtain⟨os,o1,o2,o3⟩:=h;exact⟨os,o1.kept hg (.inr (by simp[Value.ownBlock];omega)),o2,o3⟩
theorem Br.alloc{w:aE}{g gq n k N R M B:Nat}(h:Br w g gq n k N R M B)(o:Obj):Br (w.alloc o) g gq n k N R M B:=by
 obtain⟨os,o1,o2,o3⟩:=h;exact⟨os,o1.alloc _,o2,o3⟩
theorem Br.lt{w:aE}{g gq n k N R M B:Nat}(h:Br w g gq n k N R M B):gq<w.heap.size:=by
 obtain⟨os,o1,_⟩:=h;exact(dJ o1).2.1
theorem Br.start{w:aE}{g gq n N M B:Nat}(hB:0<B)(h:w.ownsRow g 3 1 (aB (some ⟨gq,0,none⟩) n n) n ((bY n 0).map iv))(hn:(bM B M).length=n):Br w g gq n n N 0 M B:=
 ⟨_,h,by intro x hx;rw[nY hx];exact hB,by rw[jK (by rw[hn];omega),jK (by simp)];simp[bS]⟩
theorem J7(v1 v2:bB)(M N:Nat)(w:aE)(h1:nR w v1 RB M)(h2:nR w v2 RB N)(hM:(bM RB M).length≤500)(hN:(bM RB N).length≤500)(Uq:2≤(bM RB N).length):
 aQ aC 188 #[v1,v2] w fun e w'=>∃v u,e=aO (bO #[v,u])∧mI w' w.heap.size v RB (M/N)∧mI w' w.heap.size u RB (M%N)∧aJ w.heap.size w w':=by
 obtain⟨a1,n1,c1,rfl,hn1,Il,vq,ha1,hr1⟩:=h1;obtain⟨a2,n2,c2,rfl,hn2,et,WI,ha2,hr2⟩:=h2;obtain⟨m,rfl⟩:∃m,n2=m+2:=⟨n2-2,by omega⟩;have hNpos:0<N:=by
  rcases jL N with e|e
  ·rw[e,dO]at Uq;simp at Uq
  ·exact e
 have OU:N<RB^(m+2):=by have:=cS cN N;rwa[hn2]at this
 obtain⟨b2,f2,rfl,hcy1⟩:=hr2 (m+1) (by omega);obtain⟨b2',f2',he,hcy0⟩:=hr2 m (by omega);injection he with he;injection he with he1 he2;subst he1 he2;have hy1:(bM RB N).getD (m+1) 0≤999999:=by have:=eJ (eA cN N) (by decide) (m+1);unfold RB at this⊢;omega
 have hy0:(bM RB N).getD m 0≤999999:=by have:=eJ (eA cN N) (by decide) m;unfold RB at this⊢;omega
 have OV:(bM RB N).getD (m+1) 0*RB+(bM RB N).getD m 0=N/RB^m:=by rw[pS cN,pS cN];exact top2 cN OU
 generalize hgy1:(bM RB N).getD (m+1) 0=Y1 at *;generalize hgy0:(bM RB N).getD m 0=Y0 at *;clear hgy1 hgy0;have Ys:=zq OV;clear OV;have H1:=zq hr1;clear hr1;have H2:=zq hr2;clear hr2;have hl1:n1≤500:=by omega
 have hl2:m+2≤500:=by omega
 clear hM hN;have pI:=zq hn1;clear hn1;have qE:=zq hn2;clear hn2;have HNpos:=zq hNpos;clear hNpos;have HNlt:=zq OU;clear OU;have Ha1:=zq ha1;clear ha1 ha2 Uq;simp only[cA]at vq WI;have q1:IntKind.i64.wrap ((m:Int)+2-1)=(m:Int)+1:=by rw[show(m:Int)+2-1=(m:Int)+1 by omega];exact aP _ (by omega)
 have q2:(0:Int)≤(m:Int)+1:=by omega
 have q3:((m:Int)+1).toNat=m+1:=by omega
 have q4:IntKind.i64.wrap ((m:Int)+2-2)=(m:Int):=by rw[show(m:Int)+2-2=(m:Int) by omega];exact aP _ (by omega)
 have q5:IntKind.i64.wrap ((Y1:Int)*1000000)=(Y1:Int)*1000000:=by exact aP _ (by omega)
 have q6:IntKind.i64.wrap ((Y1:Int)*1000000+Y0)=(Y1:Int)*1000000+Y0:=by exact aP _ (by omega)
 have q7:(m:Int)+1<(m:Int)+2:=by omega
 have q8:(m:Int)<(m:Int)+2:=by omega
 go_enter func188,ntmps188;go_wp2_with fail
 go_quiet (fail)
 clear q1 q2 q3 q4 q5 q6 q7 q8 hcy1 hcy0;obtain⟨w0,OW⟩:=nm (w.drewN nq);rw[OW];have fP:aJ w.heap.size w w0:=by rw[←OW];exact bH (aI _ _) _
 have Yt:w0.heap.size=w.heap.size:=by rw[←OW];rfl
 clear OW;have ht:((Y1:Int)*1000000+Y0)=((N/RB^m:Nat):Int):=by rw[←Ys.out];unfold RB;omega
 rw[ht];have htl:N/RB^m≤999999999999:=by rw[←Ys.out];unfold RB;omega
 clear ht hy1 hy0 Ys;generalize hT:N/RB^m=T at *;have HT:=zq hT;clear hT;have uN:=fP.size;go_wp2_with (at_make;refine yG rfl _ _ rfl w.heap.size _ n1 rfl rfl rfl (by omega) uN ?_;intro w1 eF gH)
 have gG:aJ w.heap.size w w1:=fP.grown gH uN (by simp);have Dx:=dJ eF;generalize Jr:w.heap.size=g at *;have UP:=zq Jr;clear Jr;clear gH uN;have HQ:Br w1 g w0.heap.size n1 n1 N 0 M RB:=Br.start (by decide) eF pI.out;clear eF;have QK:=zq (mI.nil w1 (g+1) RB (by omega));have eQ:aJ g w (w1.alloc (aL #[] 3)):=gG.alloc (by omega) _;have bm:Br (w1.alloc (aL #[] 3)) g w0.heap.size n1 n1 N 0 M RB:=HQ.alloc _;have US:g<w1.heap.size:=by omega
 clear HQ Dx;rw[Yt]at bm;go_wp2_with fail
 go_loopw[9,10] (fun r i wr=>∃(k R:Nat),i=aF aG ((k:Int)-1)∧mI wr (g+1) r RB R∧R<N∧k≤n1∧aJ g w wr∧g<wr.heap.size∧
  Br wr g g n1 k N R M RB)
  (fun _ i _=>(aK i+1).toNat)
 case atStart=>exact⟨n1,0,rfl,QK.out,HNpos.out,aD _,eQ,by simp;omega,bm⟩
 case round=>
  obtain⟨k,R,rfl,hR,hRN,hk,hB,oB,hO⟩:=hrel;clear eQ gG fP QK bm Yt US;by_cases h0:k=0
  ·subst h0;obtain⟨os,o1,o2,o3⟩:=hO;simp only[H4]at o3;rw[cY cN]at o3;obtain⟨p1,p2⟩:=OT hRN o3;have Js:=iE o1;have xD:=Rd.own o1;have pD:=zq (jF cN o1 Js o2 p1);have Yo:=zq Js;clear Js;have Hp2:=zq p2;obtain⟨gr,nr,cr,rfl,sr⟩:=hR;have Hor:aY (mI wr g (aB (some ⟨gr,0,none⟩) nr cr) RB (M%N)):=⟨gr,nr,cr,rfl,by rw[←Hp2.out];exact gN sr (rq g)⟩;clear o1 o2 o3 p1 p2 sr hRN;go_wp2_with fail
   refine kr (vT (some ⟨g,0,none⟩) n1 n1 os wr Yo.out (aD _) (by simp only[cA];omega) xD (by simp)) ?_;clear xD;go_wp2;go_ret2;rw[UP.out];exact⟨_,_,rfl,pD.out,Hor.out,hB⟩
  ·obtain⟨j,rfl⟩:∃j,k=j+1:=⟨k-1,by omega⟩;rw[show((j+1:Nat):Int)-1=(j:Int) by omega];obtain⟨b1,f1,rfl,Il⟩:=(H1.out.below (UP.out.symm▸hB)) j (by rw[pI.out];omega);have hX:(bM RB M).getD j 0≤999999:=by have:=eJ (eA cN M) (by decide) j;unfold RB at this⊢;omega
   generalize Dv:(bM RB M).getD j 0=X at *;have FE:=zq Dv;clear Dv;obtain⟨gr,nr,cr,rfl,sr⟩:=hR;have hjn:j<n1:=by omega
   have HRN:=zq hRN;clear hRN;have su:nr≤m+2:=by
    have:=eP cN (Nat.le_of_lt HRN.out);rw[qE.out]at this;have h3:=sr.1;simp only[cG,nC]at h3;omega
   have hnl:(bM RB R).length=nr:=by have h3:=sr.1;simpa using h3
   have Hnl:=zq hnl;clear hnl;have ew:(wr.alloc (aL #[iv X] 3)).ownsRow (g+1) 3 1 (aB (some ⟨wr.heap.size,0,none⟩) 1 1) 1 [iv X]:=
    jJ wr (base:=g+1) (e:=3) (size:=1) #[iv X] 1 (by omega) (by simp[cA]) rfl
   have vo:Rd (wr.alloc (aL #[iv X] 3)) (some ⟨gr,0,none⟩) (bM RB R):=Rd.own (sr.alloc _);have fN:aJ g w (wr.alloc (aL #[iv X] 3)):=hB.alloc (by omega) _;have UT:g+1≤(wr.alloc (aL #[iv X] 3)).heap.size:=by simp;omega
   go_wp2_with (at_builtin;refine ej rfl _ _ rfl (g+1) _ 1 [iv X] rfl ew _ nr _ _ rfl Hnl.out vo (by omega) (by omega) UT ?_;intro g1 wU w1 eF hg1 gH)
   have gG:aJ g w w1:=dB fN gH ew (rq g) (Nat.le_of_succ_le UT);have hlt:=hO.lt;have hO1:Br w1 g g n1 (j+1) N R M RB:=(hO.alloc (aL #[iv X] 3)).kept gH (by show wr.heap.size≠g;omega);have Rs:g<w1.heap.size:=bQ (by simp;omega) gH.size;clear gH ew vo fN UT sr hO hB oB Il hlt;obtain⟨R1,hR1⟩:=nm (R*RB+X);have ez:R1<N*RB:=by
    have h1:(R+1)*RB≤N*RB:=eG _ HRN.out;rw[gU,Ah]at h1;have h2:X<RB:=by unfold RB;omega
    omega
   have fa:R1<RB^(m+3):=by
    have h1:N*RB<RB^(m+2)*RB:=Nat.mul_lt_mul_of_pos_right HNlt.out (by decide);rw[←dN]at h1;show R1<RB^(m+2+1);exact Nat.lt_trans ez h1
   have hcl:(X::bM RB R).length=1+nr:=by rw[List.length_cons,Hnl.out,FL]
   have xD:=Rd.own (xs:=X::bM RB R) eF;have hot:mI w1 (g+1) (aB (some ⟨g1,0,none⟩) (jS (X::bM RB R)).length wU) RB R1:=jF cN (os:=X::bM RB R) eF hcl (vp cN R X (by unfold RB;omega)) (by rw[Yr RB R X cN];exact hR1);have NE:=dJ eF;have Hcl:=zq hcl;clear hcl;have If:=zq hR1;clear hR1;have HR1lt:=zq ez;clear ez;have UU:=zq fa;clear fa;refine(vT (some ⟨g1,0,none⟩) wU (1+nr) (X::bM RB R) w1 Hcl.out NE.2.2.1 NE.2.2.2 xD (by simp)).mono ?_;rintro e w'⟨rfl,rfl⟩;clear xD eF NE hg1;obtain⟨gs,nr1,cr1,vU,vr⟩:=hot;injection vU with vU AA hv3;rw[AA];injection vU with vU;injection vU with vU;subst vU hv3;clear AA;have hn1l:(bM RB R1).length=nr1:=by have h3:=vr.1;simpa using h3
   have hn1b:nr1≤m+3:=by rw[←hn1l];exact fD cN UU.out
   have vt:=zq hn1l;clear hn1l;have UV:=zq (Rd.own vr);go_wp2_with fail
   refine kr (yF _ _ nr1 _ (bM RB R1) w1 vt.out UV.out (by omega)) ?_;rw[show((m:Int)+2).toNat=m+2 by omega];have hL2:(bM RB R1).getD (m+2) 0≤999999:=by have:=eJ (eA cN R1) (by decide) (m+2);unfold RB at this⊢;omega
   have hL1:(bM RB R1).getD (m+1) 0≤999999:=by have:=eJ (eA cN R1) (by decide) (m+1);unfold RB at this⊢;omega
   have hL0:(bM RB R1).getD m 0≤999999:=by have:=eJ (eA cN R1) (by decide) m;unfold RB at this⊢;omega
   have h3:=top3 (n:=R1) (k:=m) cN UU.out;rw[←pS cN,←pS cN,←pS cN]at h3;generalize hl2g:(bM RB R1).getD (m+2) 0=L2 at *;generalize hl1g:(bM RB R1).getD (m+1) 0=L1 at *;generalize hl0g:(bM RB R1).getD m 0=L0 at *;have Hl1g:=zq hl1g;clear hl1g;have Hl0g:=zq hl0g;clear hl0g;clear hl2g;have H3:=zq h3;clear h3;go_wp2_with fail
   refine kr (yF _ _ nr1 _ (bM RB R1) w1 vt.out UV.out (by omega)) ?_;rw[show((m:Int)+2-1).toNat=m+1 by omega,Hl1g.out];go_wp2_with fail
   refine kr (yF _ _ nr1 _ (bM RB R1) w1 vt.out UV.out (by omega)) ?_;rw[gX,Hl0g.out];have EQ:((((L2:Int)*1000000+L1)*1000000+L0))=((R1/RB^m:Nat):Int):=by rw[←H3.out];unfold RB;omega
   have HG:R1/RB^m/(T+1)*N≤R1:=by rw[←HT.out];exact ei R1 N (RB^m) (Nat.pow_pos (by decide))
   have HGl:R1/RB^m/(T+1)<RB:=Rg HR1lt.out HG;have vu:=zq EQ;clear EQ;generalize hS:(((L2:Int)*1000000+L1)*1000000+L0)=S at *;have hS0:0≤S:=by omega
   have hSu:S≤999999999999999999:=by omega
   have hGe:S/((T:Int)+1)=((R1/RB^m/(T+1):Nat):Int):=by rw[vu.out];simp
   clear hL2 hL1 hL0;generalize hGg:R1/RB^m/(T+1)=G at *;clear hGg;go_wp2_with fail
   rw[hGe];have HGe:=zq hGe;clear hGe;have hog:(w1.alloc (aL #[iv G] 3)).ownsRow g 3 1 (aB (some ⟨w1.heap.size,0,none⟩) 1 1) 1 ([G].map iv):=
    jJ w1 (base:=g) (e:=3) (size:=1) #[iv G] 1 (by omega) (by simp[cA]) rfl
   have eQ:aJ g w (w1.alloc (aL #[iv G] 3)):=gG.alloc (by omega) _;have hO2:=hO1.alloc (aL #[iv G] 3);have hor2:=vr.alloc (aL #[iv G] 3);have fd:g<(w1.alloc (aL #[iv G] 3)).heap.size:=by simp;omega
   clear UV vr hO1 gG Rs;generalize hw2:w1.alloc (aL #[iv G] 3)=w2 at *;clear hw2;have hrdN:=H2.out.below (UP.out.symm▸eQ);refine(K9 _ _ _ _ (m+2) 1 (bM RB N) [G] w2 qE.out rfl (by omega) (by omega) hrdN (Rd.own hog) (eA cN N) (by simp;exact HGl)).mono ?_;clear hrdN hog;rintro e w3⟨v3,rfl,hv3,hb3⟩;rw[cY cN,show bS RB [G]=G by simp[bS]]at hv3;have fN:=aH eQ hb3 (by omega);have hO3:=hO2.below hb3;have hor3:=cT hor2 hb3;have UT:g<w3.heap.size:=bQ fd hb3.size;clear eQ hO2 hor2 fd hb3;go_wp2_with fail
   refine(Dw _ _ R1 (N*G) w3 (mI.inL ⟨_,_,_,rfl,hor3⟩) hv3.inL (by rw[vt.out];omega) (by rw[cK];exact HG)).mono ?_;clear hv3 hor3;rintro e w4⟨v4,rfl,hv4,hb4⟩;have hB4:=aH fN hb4 (by omega);have hO4:=hO3.below hb4;have hsz4:g<w4.heap.size:=bQ UT hb4.size;have hv4:=hv4.mono (base':=g+1) UT;clear fN hO3 hb4;have HGG:aY (R1=G*N+(R1-N*G)):=by show R1=_;rw[cK N G];omega
   clear UT;go_wp2_with fail
   go_loopw[9,11] (fun r q wr=>∃(Q' R':Nat),q=aF aG Q'∧mI wr (g+1) r RB R'∧aY (R1=Q'*N+R')∧aJ g w wr∧g<wr.heap.size∧Br wr g g n1 (j+1) N R M RB) (fun _ q _=>1000000-(aK q).toNat);case atStart=>exact⟨G,_,rfl,hv4,HGG,hB4,hsz4,hO4⟩
   clear hB4 hO4 hsz4 HGG hv4;case round=>
    obtain⟨Q',R',rfl,hv,hq,hB,oB,hO⟩:=hrel;have hQl:Q'<RB:=Rg HR1lt.out (by rw[hq.out];omega);have hRl:aY (R'≤R1):=by show R'≤R1;rw[hq.out];omega
    have hRll:(bM RB R').length≤503:=by have:=fD cN (Nat.lt_of_le_of_lt hRl.out UU.out);omega
    have HRll:=zq hRll;clear hRll;have hInN:nR wr (aB (some ⟨b2,f2,none⟩) (m+2) c2) RB N:=⟨_,_,_,rfl,qE.out,et,by simp only[cA];omega,by simp,H2.out.below (UP.out.symm▸hB)⟩;have HInN:=zq hInN;clear hInN;have hQl2:Q'≤999999:=by unfold RB at hQl;omega
    have HQl:=zq hQl;clear hQl;go_wp2_with fail
    refine ka (Ri _ _ R' N wr hv.inL HInN.out (by have:=HRll.out;omega) (by rw[qE.out];omega)) fun w5 hb5=>?_;have yH:=aH hB hb5 (by omega);have hO5:=hO.below hb5;have hv5:=hv.below hb5;have vw:g<w5.heap.size:=bQ oB hb5.size;have hInN5:=HInN.out.below hb5;have HInN5:=zq hInN5;clear hInN5;clear hB hO hv oB hb5;by_cases hlt:R'<N
    ·rw[OS hlt];have Hlt:=zq hlt;clear hlt;obtain⟨os,o1,o2,o3⟩:=hO5;have sv:j<os.length:=by rw[iE o1];exact hjn
     have hco:=lL o1 hjn;have hfz:=eO o1 j;generalize os.getD j 0=O at *;have hgb:g≤g:=aD g;have pU:=zq (Yj RB (bM RB M) os j N R Q' R' (by rw[pI.out];omega) sv o3 (by rw[FE.out,If.out];exact hq.out));have J6:=zq o1;clear o1;have Rq:=zq o2;clear o2;clear o3;go_wp2;go_roundw;case rel=>
      refine⟨j,R',rfl,?_,Hlt.out,by omega,yH.setCell (p:=⟨g,j,none⟩) hgb _,by simpa using vw,os.set j Q',tJ J6.out j _,yC Rq.out HQl.out,pU.out⟩;obtain⟨g',n',c',e,o⟩:=hv5;exact⟨g',n',c',e,ownsRow_setCell_below o (by show g<g+1;omega) _⟩
     case measure=>simp only[aK];omega
    ·have hc0:(0:Int)≤FU R' N:=by unfold FU;split <;>(try split)<;>omega
     have hmin:=Dw _ _ R' N w5 hv5.inL HInN5.out (by have:=HRll.out;omega) (by omega);have Hmin:=zq hmin;clear hmin;have Hge:=zq (Nat.le_of_not_lt hlt);clear hlt;generalize FU R' N=cc at *;go_wp2_with fail
     refine Hmin.out.mono ?_;rintro e w6⟨v6,rfl,hv6,hb6⟩;have Cu:=aH yH hb6 (by omega);have hO6:=hO5.below hb6;have hv6:=hv6.mono (base':=g+1) vw;have hsz6:g<w6.heap.size:=bQ vw hb6.size;clear yH hO5 vw hb6 hv5;go_wp2;go_roundw;case rel=>
      refine⟨Q'+1,R'-N,by go_num,hv6,?_,Cu,hsz6,hO6⟩;show R1=_;rw[hq.out,gU,Ah];have:=Hge.out;omega
     case measure=>simp only[aK];omega
theorem La(v1 v2:bB)(M N:Nat)(w:aE)(h1:nR w v1 RB M)(h2:nR w v2 RB N)(hM:(bM RB M).length≤500)(hN:(bM RB N).length≤500)(hN0:0<N):
 aQ aC 188 #[v1,v2] w fun e w'=>∃v u,e=aO (bO #[v,u])∧mI w' w.heap.size v RB (M/N)∧mI w' w.heap.size u RB (M%N)∧aJ w.heap.size w w':=by
 by_cases hl:2≤(bM RB N).length
 ·exact J7 v1 v2 M N w h1 h2 hM hN hl
 ·have lE:bM RB N≠[]:=fun e=>by have:=(eB cN).1 e;omega
  have h1l:(bM RB N).length=1:=by have:=List.length_pos_iff.2 lE;omega
  have hNl:N<RB:=by have:=cS cN N;rw[h1l]at this;simpa using this
  have hs:=Yq v1 M N w h1 (by omega) hN0 hNl;obtain⟨a1,n1,c1,rfl,_⟩:=h1;obtain⟨a2,n2,c2,rfl,q1,q2,q3,q4,q5⟩:=h2;obtain⟨b2,f2,rfl,hc⟩:=q5 0 (by omega);have e0:(bM RB N).getD 0 0=N:=by rw[pS cN];simp[Nat.mod_eq_of_lt hNl]
  rw[e0]at hc;rw[h1l]at q1;subst q1;have Hs:=zq hs;clear hs;clear hM hN hl lE h1l e0 q4 q5;simp only[Bj]at hc;go_enter func188,ntmps188;go_wp2_with fail
  refine Hs.out.mono ?_;rintro e w'⟨v,u,rfl,h3,h4,h5⟩;go_wp2;go_ret2;exact⟨_,_,rfl,h3,h4,h5⟩
theorem yI(s:ByteArray)(h:0<s.size):s.data.toList.head? =some 45↔s[0].toNat=45:=by
 have h':0<s.data.toList.length:=h;have e:s.data.toList.head? =some s[0]:=by rw[List.head?_eq_getElem?,cZ h'];rfl
 rw[e,uH];constructor
 ·intro h;rw[h];rfl
 ·intro h;exact UInt8.toNat_inj.1 h
def dY(s:ByteArray):Bool:=if h:0<s.size then(s[0].toNat:Int)==45 else false
theorem pE(s:ByteArray)(h:0<s.size):dY s=((s[0].toNat:Int)==45):=by rw[dY,dif_pos h]
theorem rG(s:ByteArray):rF s.data.toList=if dY s=true then 1 else 0:=by
 by_cases h:0<s.size
 ·rw[pE s h,rF];by_cases e:s[0].toNat=45
  ·rw[ip ((yI s h).2 e),ip (by simp[e])]
  ·rw[iN (mt (yI s h).1 e),iN (by simp;omega)]
 ·rw[dY,dif_neg h,rF,iN (by
   have:s.data.toList=[]:=List.eq_nil_of_length_eq_zero (by show s.size=0;omega);simp[this])]
  rfl
def sw(s:ByteArray)(f:Nat):Bool:=decide (s.size=f)||((if h:f<s.size then decide (s[f].toNat=48)else false)&&decide (1<(s.size:Int)))
theorem NF(s:ByteArray)(f:Nat)(h:f<s.size):s.data.toList.getD f 0=s[f]:=by
 have h':f<s.data.toList.length:=h;rw[aN,cZ h'];rfl
theorem Yu(s:ByteArray)(f:Nat)(hle:f≤s.size)(h:sw s f=false):f<s.size∧(∀h:f<s.size,¬(s[f].toNat=48∧1<s.size)):=by
 simp only[sw,Bool.or_eq_false_iff,decide_eq_false_iff_not,Bool.and_eq_false_iff]at h;refine⟨by omega,fun hf=>?_⟩;rw[dif_pos hf]at h;have h2:=h.2;simp only[decide_eq_false_iff_not]at h2;omega
theorem fe(s:ByteArray)(h:sw s (rF s.data.toList)=true):jE s.data.toList=11:=by
 simp only[sw,Bool.or_eq_true,decide_eq_true_eq,bT]at h;by_cases h0:s.size=rF s.data.toList
 ·exact UL _ h0
 ·have hl:rF s.data.toList<s.data.toList.length:=by have:=ef s.data.toList;have:s.data.toList.length=s.size:=rfl;omega
  rcases h with h|h
  ·exact absurd h h0
  ·have sz:rF s.data.toList<s.size:=hl;rw[dif_pos sz]at h;exact UM _ hl (of_decide_eq_true h.1) (by have:=h.2;have:s.data.toList.length=s.size:=rfl;omega)
theorem WJ(s:ByteArray)(f k:Nat){hk:k<s.size}(h:∀i(h:i<s.size),f≤i→i<k→dG s[i]=true)(hd:dG s[k]=true):∀i(h:i<s.size),f≤i→i<k+1→dG s[i]=true:=by
 intro i hi h1 h2;by_cases e:i=k
 ·subst e;exact hd
 ·exact h i hi h1 (by omega)
theorem dg_no{c:UInt8}(h1:48≤(c.toNat:Int))(h2:(c.toNat:Int)≤57)(h:¬dG c=true):False:=h (by simp[dG];omega)
theorem Dy(s:ByteArray)(w:aE)(hs:s.size≤cA):
 aQ aC 235 #[aA s] w (Rt (aF aG (jE s.data.toList)) w):=by
 unfold cA at hs;have WK:rF s.data.toList≤s.size:=ef s.data.toList;go_enter func235,ntmps235;go_upto_region 2 with fail
 go_cut[12] (fun v w'=>v=aM (dY s)∧w=w');case first =>
  by_cases h0:0<s.size
  ·go_wp2;go_meet;case rel=>exact⟨by rw[pE s h0],rfl⟩
  ·go_wp2;go_meet;case rel=>exact⟨by simp[dY,h0],rfl⟩
 obtain⟨rfl,rfl⟩:=hcut;go_upto_if 12 with fail;go_cut[3] (fun v w'=>v=aF aG (rF s.data.toList)∧w=w');case first =>
  go_wp2;all_goals go_meet
  case rel=>exact⟨by rw[rG s,ip ‹_›];rfl,rfl⟩
  case rel=>exact⟨by rw[rG s,iN (by simp[*])];rfl,rfl⟩
 case rest=>
  obtain⟨rfl,rfl⟩:=hcut;generalize hf:rF s.data.toList=f at *;have Hf:=zq hf;clear hf;go_upto_region 4 with fail
  go_cut[27] (fun v w'=>v=aM (sw s f)∧w=w');case first =>
   rcases Nat.lt_or_ge f s.size with h1|h1
   ·have e1:((f:Int)==(s.size:Int))=false:=by simp;omega
    by_cases h2:s[f].toNat=48
    ·have e2:((s[f].toNat:Int)==48)=true:=by simp[h2]
     have H2:=zq h2;clear h2;go_wp2;go_meet;case rel=>exact⟨by simp[sw,dif_pos h1,H2.out,show s.size≠f by omega],rfl⟩
    ·have e2:((s[f].toNat:Int)==48)=false:=by simp;omega
     have H2:=zq h2;clear h2;go_wp2;go_meet;case rel=>exact⟨by simp[sw,dif_pos h1,H2.out,show s.size≠f by omega],rfl⟩
   ·have e1:((f:Int)==(s.size:Int))=true:=by simp;omega
    go_wp2;go_meet;case rel=>exact⟨by simp[sw,show s.size=f by omega],rfl⟩
  case rest=>
   obtain⟨rfl,rfl⟩:=hcut;go_wp2
   ·have ht:sw s f=true:=by assumption
    go_ret;exact⟨nJ (by rw[fe s (by rw[Hf.out];exact ht)]),aI _ _⟩
   ·have ht:sw s f=false:=by assumption
    have H1:=zq (Yu s f WK ht);go_loop [4] (fun v=>∃k:Nat,v=aF aG k∧f≤k∧k≤s.size∧aY (∀i(h:i<s.size),f≤i→i<k→dG s[i]=true)) (fun v=>s.size-(aK v).toNat);case atStart=>exact⟨f,rfl,aD _,WK,fun i h h1 h2=>by omega⟩
    case round=>
     obtain⟨k,rfl,Rm,UN,hk3⟩:=hrel;by_cases hk:k<s.size
     ·by_cases hd:dG s[k]=true
      ·have h48:48≤(s[k].toNat:Int)∧(s[k].toNat:Int)≤57:=by simp only[dG,bT,decide_eq_true_eq]at hd;omega
       obtain⟨h48,h57⟩:=h48;have Hd:=zq hd;clear hd;go_wp2;go_round;case rel=>exact⟨k+1,by go_num,by omega,by omega,WJ s f k hk3.out Hd.out⟩
       case measure=>(simp only[aK];omega)
      ·have h11:jE s.data.toList=11:=eh _ k (by rw[Hf.out];exact Rm) hk (by rw[Bool.not_eq_true]at hd;exact hd);have Hd:=zq hd;clear hd;have H11:=zq h11;clear h11;go_wp2;all_goals first
        |(go_ret;exact⟨nJ H11.out.symm,aI _ _⟩)
        |(exfalso;exact dg_no (by assumption) (by omega) Hd.out)
     ·have hg:=Yh s.data.toList (by rw[Hf.out];exact H1.out.1) (by simp only[Hf.out];exact H1.out.2 H1.out.1) (by rw[Hf.out];intro i hi h2;exact hk3.out i hi h2 (by have:i<s.size:=hi;omega));rw[Hf.out]at hg;have Hg:=zq hg;clear hg;go_wp2;all_goals(go_ret;refine⟨nJ ?_,aI _ _⟩;rw[Hg.out];show _=if 300<s.size-f then _ else _)
      all_goals first |rw[ip (by omega)]|rw[iN (by omega)]
theorem Yv(B K:Nat)(hB:B=10^K)(l:List UInt8)(os:List Nat)(k e st n:Nat)(Io:st=e-K)(he:e≤l.length)(hn:n=num ((l.take e).drop st))(hk:os.length=k)
 (h:num l=num (l.take e)*B^k+bS B os):num l=num (l.take st)*B^(k+1)+bS B (os++[n]):=by
 rw[AI,hk,h,Yi l st e (by omega) he,←hn,dN];by_cases h0:st=0
 ·subst h0;simp[num,cK];omega
 ·have:e-st=K:=by omega
  rw[this,←hB,gU];have e1:num (l.take st)*B*B^k=num (l.take st)*(B^k*B):=by rw[Nat.mul_assoc,cK B]
  rw[e1,cK n];omega
theorem Ru{w:aE}{base e:Nat}{v:bB}{n:Nat}{os:List Nat}(h:w.ownsRow base e 1 v n (os.map iv)):os.length=n:=by
 have:=h.1;simpa using this
theorem Rv{w w':aE}{b T:Nat}{x y:bB}{uJ:Option Nat}(h:bZ w b #[x,y] T)(hg:w.grownBy w' uJ)(lE:some b≠uJ):w'.cell? ⟨b,1,none⟩=some y:=by
 rw[(h.grown hg lE).cell];rfl
theorem Yw{w w':aE}{b T:Nat}{x y:bB}{uJ:Option Nat}(h:bZ w b #[x,y] T)(hg:w.grownBy w' uJ)(lE:some b≠uJ):w'.frozen? ⟨b,1,none⟩=false:=
 (h.grown hg lE).fz 1
theorem Bt(t:ByteArray)(h:t.data.toList.all dG=true)(i:Nat)(hi:i<t.size):48≤(t[i].toNat:Int)∧(t[i].toNat:Int)≤57:=by
 rw[List.all_eq_true]at h;have:=h t[i] (List.getElem_mem (l:=t.data.toList) (n:=i) hi);simp only[dG,bT,decide_eq_true_eq]at this;omega
theorem Rw(s:ByteArray)(h:s.data.toList.head? =some 45):(s.extract 1 s.size).data.toList=mag s.data.toList:=by
 rw[Go.Lib.extract_data,mag,ip h];simp[dH]
theorem rH(s:ByteArray)(w:aE)(hs:s.size≤3000)(hok:wS s.data.toList=true):
 aQ aC 187 #[aA s] w fun e w'=>∃v,e=aO (.agg #[aM (dY s),v])∧mI w' w.heap.size v RB (num (mag s.data.toList))∧aJ w.heap.size w w':=by
 have WK:rF s.data.toList<s.size:=uX hok;have hpos:0<s.size:=by omega
 have lE:=pE s hpos;have Ur:=zq (kE hok);have zW:(mag s.data.toList).length=s.size-rF s.data.toList:=gP _;have hfrm:=rG s;have Hml:=zq zW;clear zW;have Hfrm:=zq hfrm;clear hfrm;have Hfl:=zq WK;clear WK;clear hok;have WL:=zq lE;clear lE;go_enter func187,ntmps187;go_upto_if 10 with fail;generalize hg:w.heap.size=g at *;have Hg:=zq hg;clear hg;go_cut[0] (fun v wx=>∃t:ByteArray,v=aA t∧aY (t.data.toList=mag s.data.toList)∧aJ g w wx∧wx.heap.size=g+2∧bZ wx g #[aM false,aB none 0 0] 216∧bZ wx (g+1) #[aM (dY s),aB none 0 0] 216);case first =>
  have hb0:bZ ((w.alloc (aL #[aM false,aB none 0 0] 216)).alloc (aL #[aM false,aB none 0 0] 216)) g #[aM false,aB none 0 0] 216:=by
   rw[←Hg.out];exact(bZ.new w _ _).alloc _
  have hb1:bZ ((w.alloc (aL #[aM false,aB none 0 0] 216)).alloc (aL #[aM false,aB none 0 0] 216)) (g+1) #[aM false,aB none 0 0] 216:=by
   have:=bZ.new (w.alloc (aL #[aM false,aB none 0 0] 216)) #[aM false,aB none 0 0] 216;rwa[World.size_alloc,Hg.out]at this
  have hB:aJ g w ((w.alloc (aL #[aM false,aB none 0 0] 216)).alloc (aL #[aM false,aB none 0 0] 216)):=by
   rw[←Hg.out];exact((aI _ _).alloc (aD _) _).alloc (by simp) _
  have oB:((w.alloc (aL #[aM false,aB none 0 0] 216)).alloc (aL #[aM false,aB none 0 0] 216)).heap.size=g+2:=by simp[Hg.out]
  have Il:=hb1.cell 0;have ff:=hb1.fz 0;generalize hwx:(w.alloc (aL #[aM false,aB none 0 0] 216)).alloc (aL #[aM false,aB none 0 0] 216)=wx at *;simp at Il;by_cases h:((s[0].toNat:Int)==45)=true
  ·have hh:=zq ((yI s hpos).2 (by
    have:(s[0].toNat:Int)=45:=by simpa using h
    omega))
   go_wp2;go_meet;case rel=>
    refine⟨_,rfl,?_,hB.setCell (p:=⟨g+1,0,none⟩) (by simp) _,by simpa using oB,hb0.other _ (by simp),?_⟩
    ·exact Rw s hh.out
    ·have:=hb1.set 0 (aM true);rw[WL.out,h];exact this
  ·have h':((s[0].toNat:Int)==45)=false:=by simpa using h
   have hh:=zq (fun e=>h (by have:=(yI s hpos).1 e;simp[this]));go_wp2;go_meet;case rel=>
    refine⟨s,rfl,?_,hB,oB,hb0,?_⟩
    ·show _=_;rw[mag,iN hh.out]
    ·rw[WL.out,h'];exact hb1
 obtain⟨t,rfl,ht,hB,oB,hb0,hb1⟩:=hcut;have htd:aY (t.data.toList.all dG=true):=by show _=_;rw[ht.out];exact Ur.out
 have htl:t.size≤3000∧0<t.size:=by
  have h1:t.data.toList.length=t.size:=rfl;rw[ht.out,Hml.out]at h1;have:=Hfl.out;omega
 obtain⟨htl,htp⟩:=htl;clear Ur Hml Hfrm Hfl WL hs hpos;have fd:g+2≤wc.heap.size:=by omega
 clear oB;go_wp2;go_loopw[4] (fun v wr=>∃(k:Nat)(sl:bB)(os:List Nat),v=aF aG ((t.size:Int)-6*k)∧k≤1000∧(k=0→sl=aB none 0 0)∧6*k<t.size+6∧aJ g w wr∧g+2≤wr.heap.size∧bZ wr g #[aM false,aB none 0 0] 216∧bZ wr (g+1) #[aM (dY s),sl] 216∧
  wr.ownsRow (g+2) 3 1 sl k (os.map iv)∧aY ((∀x∈os,x<RB)∧num t.data.toList=num (t.data.toList.take (t.size-6*k))*RB^k+bS RB os))
  (fun v _=>(aK v+6).toNat)
 case atStart=>
  refine⟨0,aB none 0 0,[],by simp,by omega,fun _=>rfl,by omega,hB,fd,hb0,hb1,World.ownsRow_nil _ _ _ _,by simp,?_⟩;rw[Nat.mul_zero,Nat.sub_zero,dH (by show t.size≤t.size;exact aD _)];simp[bS]
 clear hB fd hb0 hb1;case round=>
  obtain⟨k,sl,os,rfl,hk,hk0,hk6,hB,oB,hb0,hb1,hown,hH⟩:=hrel;have Hk0:=zq hk0;clear hk0;by_cases hgo:6*k<t.size
  ·obtain⟨e,he⟩:∃e:Nat,t.size-6*k=e:=⟨_,rfl⟩;have hei:(t.size:Int)-6*k=e:=by omega
   rw[hei];rw[he]at hH;have hepos:0<e:=by omega
   have hele:e≤t.size:=by omega
   obtain⟨st,Io⟩:∃st:Nat,st=e-6:=⟨_,rfl⟩;have Ip:st≤e:=by omega
   have J8:e≤st+6:=by omega
   have NG:=zq Io;have He:=zq he;have Hei:=zq hei;clear hei he;go_upto_region 9 with fail
   go_cut[6] (fun v w'=>v=aF aG (st:Int)∧wr=w');case first =>
    clear Io;go_wp2;all_goals go_meet
    all_goals exact⟨by congr 1;have:=NG.out;omega,rfl⟩
   obtain⟨rfl,rfl⟩:=hcut;clear Io;obtain⟨wo,hwo⟩:∃wo:aE,wo=wr:=⟨_,rfl⟩;rw[←hwo]at hB oB hb0 hb1 hown⊢;clear hwo;go_wp2;go_loop [5,6] (fun n i=>∃(N I:Nat),n=aF aG N∧i=aF aG I∧st≤I∧I≤e∧N<10^(I-st)∧aY (N=num ((t.data.toList.take I).drop st))) (fun _ i=>e-(aK i).toNat);case atStart=>exact⟨0,st,rfl,rfl,aD _,Ip,by simp,by show 0=_;rw[jK (by simp;omega)];rfl⟩
   case round=>
    obtain⟨N,I,rfl,rfl,hI1,hI2,ta,hN⟩:=hrel;have Uq:N≤999999:=by
     have:10^(I-st)≤10^6:=bN (by decide) (by omega);omega
    clear ta;by_cases hIe:I<e
    ·have hIt:I<t.size:=by omega
     have hd:=Bt t htd.out I hIt;have hns:=zq (Ek t.data.toList st I hI1 hIt);have hnl:=zq (OQ t.data.toList st (I+1) (by show I+1≤t.size;omega) htd.out);have hnl2:num ((t.data.toList.take (I+1)).drop st)≤999999:=by
      have:10^(I+1-st)≤10^6:=bN (by decide) (by omega);have:=hnl.out;omega
     have Hnl2:=zq hnl2;clear hnl2;obtain⟨fg,MY⟩:=hd;go_wp2;go_round;case rel=>
      have ev:(10*(N:Int)+((t[I].toNat:Int)-48))=((num ((t.data.toList.take (I+1)).drop st):Nat):Int):=by
       rw[hns.out,←hN.out];show _=((N*10+(t[I].toNat-48):Nat):Int);omega
      exact⟨_,I+1,by rw[ev],by go_num,by omega,by omega,hnl.out,rfl⟩
     case measure=>simp only[aK];omega
    ·obtain rfl:I=e:=by omega
     have Il:wo.cell? ⟨g+1,1,none⟩=some sl:=by rw[hb1.cell];rfl
     have ff:=hb1.fz 1;have pU:=zq (Yv RB 6 (by decide) t.data.toList os k I st N NG.out (by show I≤t.size;exact hele) hN.out (Ru hown) hH.out.2);have hlt:=zq (oA hH.out.1 (by unfold RB;omega:N<RB));have td:=zq hb1;have RA:=zq hb0;clear hb1 hb0 hN hH;go_wp2_with (at_builtin;refine Bp rfl _ _ rfl (g+2) _ _ _ rfl hown _ rfl rfl (by omega) oB ?_;intro g1 wU w1 eF hg1 gH;have hc1':=Rv td.out gH (kS hown (by omega));have hf1':=Yw td.out gH (kS hown (by omega)))
     have gG:aJ g w w1:=dB hB gH hown (by omega) (by omega);have Rs:g+2≤w1.heap.size:=Nat.le_trans oB gH.size;have ER:=zq (RA.out.grown gH (kS hown (by omega)));have fh:=zq (td.out.grown gH (kS hown (by omega)));clear Il ff td RA hB oB gH hown;go_wp2;go_roundw;case rel=>
      refine⟨k+1,_,os++[N],?_,by omega,by omega,?_,gG.setCell (p:=⟨g+1,1,none⟩) (by simp) _,by simpa using Rs,ER.out.other _ (by simp),fh.out.set 1 _,?_,hlt.out,?_⟩
      ·congr 1;have:=Hei.out;omega
      ·have:=He.out;omega
      ·rw[qO,Aw];exact gQ eF (by simp) _
      ·have:=He.out;rw[show t.size-6*(k+1)=st by have:=NG.out;omega];exact pU.out
     case measure=>simp only[aK];omega
  ·have Rm:0<k:=by omega
   obtain⟨g1,wU,rfl⟩:=FZ Rm hown;have Il:wr.cell? ⟨g+1,1,none⟩=some (aB (some ⟨g1,0,none⟩) k wU):=by rw[hb1.cell];rfl
   have ff:=hb1.fz 1;have NE:=dJ hown;have xD:=Rd.own hown;have Js:=Ru hown;have QJ:bS RB os=num t.data.toList:=by
    have h3:=hH.out.2;rw[show t.size-6*k=0 by omega]at h3;rw[h3];simp[num]
   have hot:=zq (jF cN hown Js hH.out.1 QJ);have Yo:=zq Js;clear Js QJ hH hown;have td:=zq hb1;have RA:=zq hb0;clear hb1 hb0;go_wp2_with fail
   refine kr (vT (some ⟨g1,0,none⟩) wU k os wr Yo.out NE.2.2.1 NE.2.2.2 xD (by simp)) ?_;clear xD;have c10:wr.cell? ⟨g+1,0,none⟩=some (aM (dY s)):=by rw[td.out.cell];rfl
   have c00:wr.cell? ⟨g,0,none⟩=some (aM false):=by rw[RA.out.cell];rfl
   have c01:wr.cell? ⟨g,1,none⟩=some (aB none 0 0):=by rw[RA.out.cell];rfl
   have f10:=td.out.fz 0;have f00:=RA.out.fz 0;have f01:=RA.out.fz 1;have pW:∀sl:bB,bZ (((wr.setCell ⟨g+1,1,none⟩ sl).setCell ⟨g,0,none⟩ (aM (dY s))).setCell ⟨g,1,none⟩ sl) g #[aM (dY s),sl] 216:=fun sl=>
    ((RA.out.other (a:=⟨g+1,1,none⟩) sl (by simp)).set 0 (aM (dY s))).set 1 sl
   have ES:=zq pW;clear pW;go_wp2;refine bodyPost_ret (results_cell_row Tryz.results187 _ _ g 216 _ _ _ rfl (ES.out _) underlying216 rfl (by kernel_rfl)) rfl ⟨_,rfl,?_,?_⟩
   ·rw[Hg.out,←ht.out];exact(((hot.out.set_other (by simp) _).set_other (by simp) _).set_other (by simp) _).mono (by omega)
   ·rw[Hg.out];exact((hB.setCell (p:=⟨g+1,1,none⟩) (by simp) _).setCell (p:=⟨g,0,none⟩) (by simp) _).setCell (p:=⟨g,1,none⟩) (by simp) _
abbrev bv(b:UInt8):bB:=aF .u8 (b.toNat:Int)
theorem Yx:(Tryz.prog.info? 5).map (fun i=>(i.zero,i.size,i.bytes))=some (some (aF .u8 0),1,1):=by kernel_rfl
theorem Lb{w:aE}{fA:Array Oper}{rest:List Oper}{o:Oper}{a:Act}{Q:Exit→Act→aE→Prop}(FD:o.guard=none)(l c:Operand)
 (ho:o.op=Op.makeSlice 241 l c)(base:Nat)(L:Int)(n:Nat)(hl:a.eval l=aF aG L)(hc:a.eval c=aF aG L)(hL:L=(n:Int))
 (hn:n≤2147483648)(lK:base≤w.heap.size)
 (h:∀w',w'.ownsRow base 5 1 (aB (some ⟨w.heap.size,0,none⟩) n n) n ((bY n (0:UInt8)).map bv)→w.grownBy w' none→
  wpList aC fA Q rest (a.put o.dst (aB (some ⟨w.heap.size,0,none⟩) n n)) w'):
 wpList aC fA Q (o::rest) a w:=by
 obtain⟨i0,hi,D8,uY,hz2⟩:=info_parts Yx;refine wpList_make_full _ FD l c 241 ho base 5 i0 (aF .u8 0) 1 Ax hi D8 uY aG aG L L n hl hc hL hL (by rw[hz2];omega) (by simp only[cA];omega) lK ?_;intro w' hown hg;refine h w' ?_ hg;have e:(madeCells (aF .u8 0).cells (n*1)).toList=(bY n (0:UInt8)).map bv:=by
  rw[nC,show(aF .u8 0).cells= #[aF .u8 0]from rfl,toList_madeCells_one,List.map_replicate];rfl
 rw[←e];exact hown
theorem J9(l:List UInt8):strOfNums (l.map fun b=>(b.toNat:Int))=bs l:=by
 have h:(strOfNums (l.map fun b=>(b.toNat:Int))).data.toList=l:=by
  rw[strOfNums_data,List.map_map];exact(List.map_congr_left fun b _=>by show UInt8.ofNat ((b.toNat:Int)).toNat=b;rw[gX,UInt8.ofNat_toNat]).trans (List.map_id' l)
 exact Em h
theorem Lc{w:aE}{g off n cap:Nat}(l:List UInt8)(hl:l.length=n)(h:∀i,i<n→w.cell? ⟨g,off+i,none⟩=some (bv (l.getD i 0))):
 (convert 241 9 (aB (some ⟨g,off,none⟩) n cap)).run aC w=.ok (aA (bs l)) w:=by
 have:=run_convert_bytes_arg (P:=aC) w 241 5 Ax underlying5 g off n cap (l.map fun b=>(b.toNat:Int)) (by simpa using hl) (by
  intro i hi;rw[h i hi];simp[aN,cZ (show i<l.length by omega)]) 9 underlying9
 rw[this,J9]
theorem CG{w:aE}{base g n cap:Nat}{l:List UInt8}(h:w.ownsRow base 5 1 (aB (some ⟨g,0,none⟩) n cap) n (l.map bv)){j:Nat}(hj:j<n):w.cell? ⟨g,j,none⟩=some (bv (l.getD j 0)):=by
 have hl:=h.1;simp only[cG,nC]at hl;rw[gJ h j (by omega)];simp[aN,cZ (show j<l.length by omega)]
theorem F6{w:aE}{base g n cap:Nat}{l:List UInt8}(h:w.ownsRow base 5 1 (aB (some ⟨g,0,none⟩) n cap) n (l.map bv))(j:Nat)(b:UInt8):
 (w.setCell ⟨g,j,none⟩ (bv b)).ownsRow base 5 1 (aB (some ⟨g,0,none⟩) n cap) n ((l.set j b).map bv):=by
 have:=(KL h j (bv b)).1;rwa[←List.map_set]at this
end
end Go.Proofs.YtcimoodjlopdaaaGreatDoor
