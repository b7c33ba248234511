import Derived.BigRegion
import Derived.BigQuiet
import Derived.Deep.QuietTactic
import Derived.Shelf.SlicesE.Clone
import Derived.Shelf.Spec.SlicesGrow
import Derived.Outline
import Derived.Test.YtcimoodjlopdaaaGreatDoorZ0
import Derived.Test.YtcimoodjlopdaaaGreatDoorZ22
import Derived.Test.YtcimoodjlopdaaaGreatDoorZ25
namespace Go.Proofs.YtcimoodjlopdaaaGreatDoor
set_option maxRecDepth 100000
set_option maxHeartbeats 8000000
set_option linter.all false
open Go.Proofs.Tryz
open _root_.Array renaming size_append->bf
open Go renaming World->aE,Calls->aQ,Value->bB,maxLen->cA,Addr->dE,info_parts->OG
open Go.Calls renaming mono->wW
open Go.Ending renaming returned->aO
open Go.IntKind renaming i64->aG
open Go.IntWalk renaming i64_in->aP
open Go.Obj renaming cells->aL
open Go.Proofs.SlLaysE0 renaming n41->sk
open Go.Proofs.Tryz renaming prog->aC,underlying4->iQ,zeroValue4->jM,sizeOf4->nF,isAgg4->pB,underlying38->Jl,ntmps12->Jm,func12->KT,zeroValue38->so
open Go.RowKit renaming Below->aJ,intOf->aK,Hid->aY
open Go.RowKit.Below renaming refl->aI
open Go.Shelf renaming Ren->lI
open Go.Value renaming string->aA,slice->aB,int->aF,bool->aM,pointer->cB
open Go.World renaming size_alloc->aS,block_lt_of_cell?->bF,ownsRow_lit->jJ,ownsRow->B3
open List renaming getD_eq_getElem?_getD->aN,length_map->cG,length_append->cU,take_of_length_le->dH,take_succ_eq_append_getElem->dQ,not_mem_nil->MM,mem_cons->Um
open Nat renaming le_refl->aD,zero_le->bR,mod_lt->fW,zero_add->gL
section
open Go Go.RowKit Go.Lib
theorem keepA{W:aE}{o:Obj}{p:dE}{v:bB}(h:W.cell? p=some v):(W.alloc o).cell? p=some v:=(World.cell?_alloc_lt _ _ _ (bF W p h)).trans h
theorem keepD{W:aE}{p:dE}{v:bB}(h:W.cell? p=some v):W.drew.cell? p=some v:=h
theorem qg{B:Nat}{a w:aE}(h:aJ B a w)(q:Nat):aJ B a (w.drewN q):=⟨h.os,h.tape,h.output,h.size,h.block⟩
def RetM(w:aE)(n:Nat)(PN:List (List Pt))(e:Ending)(w':aE):Prop:=
 (∃g cap,∃iJ:List Lp,e=aO (aB (some ⟨g,0,none⟩) n cap)∧iJ.map Lp.ps=PN∧zP w' (some ⟨g,0,none⟩) iJ)∧aJ w.heap.size w w'
theorem TD{fs:List Fr}{at':List (List UInt8)}{ls:List Lp}{k:Nat}(hk:k<ls.length):(eV fs at' ls).take (k+1)=(eV fs at' ls).take k++[mM fs at' (ls.getD k default).ps]:=by
 unfold eV;rw[dQ (by rw[cG];exact hk)];simp[aN,hk]
theorem wP.up{w:aE}{b off:Nat}{fs:List Fr}{s:Nat}(h:wP w (some ⟨b,off,none⟩) fs)(hs:s<fs.length):w.cell? ⟨b,off+s*5,none⟩=some (aM (fs.getD s default).up):=by
 obtain⟨b',o',e,c,-⟩:=h.at hs rfl;injection e with e;injection e with e1 e2;subst e1 e2;exact c
theorem xO.get{w:aE}{b off:Nat}{xs:List (List UInt8)}{s:Nat}(h:xO w (some ⟨b,off,none⟩) xs)(hs:s<xs.length):w.cell? ⟨b,off+s,none⟩=some (aA (bs (xs.getD s []))):=by
 obtain⟨b',o',e,c⟩:=h s hs;injection e with e;injection e with e1 e2;subst e1 e2;exact c
theorem Z4 (a b c:Option dE) (nf n ca cb cc:Nat) (fs:List Fr) (at' :List (List UInt8)) (ls:List Lp) (w:aE)
 (hf:fs.length=nf) (Fo:at'.length=nf) (hl:ls.length=n) (FK:nf≤1000000) (hn:n≤1000000) (rV:∀ i,i < n→(ls.getD i default).ps.length≤1000000)
 (ue:∀ i,i < n→∀ j,j < (ls.getD i default).ps.length→∃ s:Nat,((ls.getD i default).ps.getD j default).side=s∧s < nf) (rf:wP w a fs) (ra:xO w b at') (rl:zP w c ls) :
 aQ aC 50 #[aB a nf ca,aB b nf cb,aB c n cc] w (RetM w n (eV fs at' ls)):=by
 have Rf:=zq rf;have Ra:=zq ra;have Rl:=zq rl;have Hf:=zq hf;have Hat:=zq Fo;have Hl:=zq hl;have SS:=zq rV;have Hsd:=zq ue;have HMa:aY (∀ k,k < n→(eV fs at' ls).take (k + 1)=(eV fs at' ls).take k ++ [mM fs at' (ls.getD k default).ps]):=fun k hk=> TD (by rw [hl];exact hk);have HMe:aY ((eV fs at' ls).take n=eV fs at' ls):=dH (by unfold eV;rw [cG,hl];exact aD _);clear rf ra rl hf Fo hl rV ue;generalize eV fs at' ls=MA at *;have O0:aY (nB w.heap.size (w.alloc (aL #[] 38)) (aB (some ⟨w.heap.size,0,none⟩) 0 0) []):=⟨jJ w #[] 0 (aD _) (bR _) rfl,fun l hl=> absurd hl (by simp)⟩;have BA:=zq ((aI w.heap.size w).alloc (aD _) (aL #[] 38));go_enter func50,ntmps50;go_wp2;go_loopw [7,8] (fun o i wr=> ∃ (g:Nat) (co:Nat) (iJ:List Lp),i=aF aG (iJ.length:Nat)∧iJ.length≤n∧o=aB (some ⟨g,0,none⟩) iJ.length co∧aY (iJ.map Lp.ps=MA.take iJ.length)∧aY (nB w.heap.size wr (aB (some ⟨g,0,none⟩) iJ.length co) iJ)∧aY (aJ w.heap.size w wr)) (fun _ i _=> n - (aK i).toNat);case atStart=> exact⟨_,0, [],rfl,bR _,rfl,rfl,O0.out,BA.out⟩
 case round=>
  clear O0 BA;obtain⟨gd,co,iJ,rfl,hk,rfl,Hq,HO,HB⟩:=hrel;obtain⟨k,wO⟩:∃ k,iJ.length=k:=⟨_,rfl⟩;rw [wO] at hk Hq HO ⊢;by_cases hlt:k < n
  ·obtain⟨lb,lo,rfl,c0,rp⟩:=(Rl.out.below HB.out).at (i:=k) (by rw [Hl.out];exact hlt) rfl;have Rp:=zq rp;have HMk:=zq (HMa.out k hlt);have zW:=SS.out k hlt;have Hsk:=zq (Hsd.out k hlt);have SW:=zq wO;clear rp wO;generalize ls.getD k default=l at *;obtain⟨la,lcp,ps⟩:=l;simp only [] at *;obtain⟨m,hm⟩:∃ m,ps.length=m:=⟨_,rfl⟩;rw [hm] at zW c0 Hsk;have Hm:=zq hm;clear hm;rename aE=> wo;have HMs:aY (∀ j,j < m→(mM fs at' ps).take (j + 1)=(mM fs at' ps).take j ++ [Fs fs at' (ps.getD ((j + m - 1) % m) default) (ps.getD j default) (ps.getD ((j + 1) % m) default)]):=fun j hj=> by
    have:=Tk (fs:=fs) (at' :=at') (ps:=ps) (k:=j) (by rw [Hm.out];exact hj);rwa [Hm.out] at this
   have HML:aY ((mM fs at' ps).take m=mM fs at' ps):=dH (by rw [sA,Hm.out];exact aD _);have HMn:aY ((mM fs at' ps).length=m):=by show _=_;rw [sA,Hm.out]
   have I0:=zq (jJ wo (base:=wo.heap.size) (e:=46) (size:=3) #[] 0 (aD _) (bR _) rfl);have BI:=zq ((aI wo.heap.size wo).alloc (aD _) (aL #[] 46));generalize mM fs at' ps=ML at *;have hlb1:lb < wo.heap.size:=bF wo ⟨lb,lo + k,none⟩ c0;have hlb3:¬ lb=wo.heap.size:=by omega
   go_wp2;clear hlb1 hlb3;go_loopw [9,11] (fun o i wr=> ∃ (j:Nat) (al:Option dE) (cl:Nat),i=aF aG j∧j≤m∧o=aB al j cl∧aY (wr.ownsRow wo.heap.size 46 3 (aB al j cl) j (dL (ML.take j)))∧aY (aJ wo.heap.size wo wr)) (fun _ i _=> m - (aK i).toNat);case atStart=> exact⟨0,_,0,rfl,bR _,rfl,I0.out,BI.out⟩
   case round=>
    clear I0 BI;obtain⟨j,al,cl,rfl,hj,rfl,mV,yZ⟩:=hrel;have Pq:=bV yZ.out c0;by_cases hjm:j < m
    ·have rO:=zq (aT HB.out yZ.out);have QQ:(j + 1) % m < m:=fW _ (by omega);have hpn:(j + m - 1) % m < m:=fW _ (by omega);have GG:=xU j m;have hmod2:((j:Int) + (m:Int) - 1).tmod (m:Int)=(((j + m - 1) % m:Nat):Int):=by
      rw [Int.tmod_eq_emod_of_nonneg (by omega)];rw [show(j:Int) + (m:Int) - 1=((j + m - 1:Nat):Int) by omega];rfl
     have HMj:=zq (HMs.out j hjm);obtain⟨s2,AB,ht2⟩:=Hsk.out j hjm;obtain⟨s1,Dx,uj⟩:=Hsk.out ((j + m - 1) % m) hpn;obtain⟨s3,ix,ht3⟩:=Hsk.out ((j + 1) % m) QQ;generalize (j + 1) % m=q at *;generalize (j + m - 1) % m=p at *;obtain⟨pb,po,rfl,d0,d1,d2⟩:=(Rp.out.below yZ.out).at (i:=p) (by rw [Hm.out];exact hpn) rfl;obtain⟨pb1,po1,epb,e0,e1,e2⟩:=(Rp.out.below yZ.out).at (i:=j) (by rw [Hm.out];exact hjm) rfl;obtain⟨pb2,po2,epc,f0,f1,f2⟩:=(Rp.out.below yZ.out).at (i:=q) (by rw [Hm.out];exact QQ) rfl;injection epb with epb;injection epb with h1 h2;subst h1 h2;injection epc with epc;injection epc with h1 h2;subst h1 h2;obtain⟨ab,ao,rfl⟩:∃ ab ao,a=some ⟨ab,ao,none⟩:=by
      obtain⟨x,y,e, -⟩:=Rf.out s1 (by rw [Hf.out];exact uj);exact⟨x,y,e⟩
     obtain⟨nb,no,rfl⟩:∃ nb no,b=some ⟨nb,no,none⟩:=by
      obtain⟨x,y,e, -⟩:=Ra.out s1 (by rw [Hat.out];exact uj);exact⟨x,y,e⟩
     have HUp:aY (∀ W,aJ w.heap.size w W→∀ s,s < nf→W.cell? ⟨ab,ao + s * 5,none⟩=some (aM (fs.getD s default).up)):=fun W hW s hs=> (Rf.out.below hW).up (by rw [Hf.out];exact hs);have HAt:aY (∀ W,aJ w.heap.size w W→∀ s,s < nf→W.cell? ⟨nb,no + s,none⟩=some (aA (bs (at'.getD s [])))):=fun W hW s hs=> (Ra.out.below hW).get (by rw [Hat.out];exact hs);have HMp:aY (Fs fs at' (ps.getD p default) (ps.getD j default) (ps.getD q default)=⟨s2,if (fs.getD s1 default).up=(fs.getD s2 default).up then(ps.getD j default).fr else at'.getD s1 [],if (fs.getD s2 default).up=(fs.getD s3 default).up then(ps.getD j default).en else at'.getD s3 []⟩):=by
      show _=_;unfold Fs xA;rw [Dx,AB,ix];rfl
     rw [HMp.out] at HMj;clear HMp;generalize ps.getD p default=P at *;generalize ps.getD j default=Q at *;generalize ps.getD q default=R at *;obtain⟨P0,P1,P2⟩:=P;obtain⟨Q0,Q1,Q2⟩:=Q;obtain⟨R0,R1,R2⟩:=R;simp only [] at *;subst Dx AB ix;have HU1:=zq (fun W hW=> HUp.out W hW s1 uj);have HU2:=zq (fun W hW=> HUp.out W hW s2 ht2);have HU3:=zq (fun W hW=> HUp.out W hW s3 ht3);have ZO:=zq (fun W hW=> HAt.out W hW s1 uj);have HA3:=zq (fun W hW=> HAt.out W hW s3 ht3);clear HUp HAt;generalize (fs.getD s1 default).up=u1 at *;have l1:pb < wr.heap.size:=bF wr ⟨pb,po + j * 3,none⟩ e0;have l2:lb < wr.heap.size:=bF wr ⟨lb,lo + k,none⟩ Pq;have v1:∀ j,pb < wr.heap.size + j:=fun j=> by omega
     have v2:∀ j,¬ pb=wr.heap.size + j:=fun j=> by omega
     have v3:¬ pb=wr.heap.size:=by omega
     have x1:∀ j,lb < wr.heap.size + j:=fun j=> by omega
     have x2:∀ j,¬ lb=wr.heap.size + j:=fun j=> by omega
     have x3:¬ lb=wr.heap.size:=by omega
     have hm0:¬ m=0:=by omega
     have jm:(j:Int) < (m:Int):=by omega
     have pm:(p:Int) < (m:Int):=by omega
     have qm:(q:Int) < (m:Int):=by omega
     have p0:(0:Int)≤(p:Int):=by omega
     have q0:(0:Int)≤(q:Int):=by omega
     have kn:(k:Int) < (n:Int):=by omega
     have w1:IntKind.i64.wrap ((j:Int) + (m:Int))=(j:Int) + (m:Int):=aP _ (by omega);have w2:IntKind.i64.wrap ((j:Int) + (m:Int) - 1)=(j:Int) + (m:Int) - 1:=aP _ (by omega);have w3:IntKind.i64.wrap ((j:Int) + 1)=(j:Int) + 1:=aP _ (by omega);generalize bs P1=PF at *;generalize bs P2=PE at *;generalize bs R1=RF at *;generalize bs R2=RE at *;go_wp2;go_cut [12,13,14] (fun x y z W=> ∃ g h i:Nat,x=cB (some ⟨g,0,none⟩)∧y=cB (some ⟨h,0,none⟩)∧z=cB (some ⟨i,0,none⟩)∧aY (Fu wr W g h i (#[aF aG s1,aA PF,aA PE]) (#[aF aG s2,aA (bs Q1),aA (bs Q2)]) (#[aF aG s3,aA RF,aA RE])));case first=>
      go_region_held3 (fun w' => w'.cell? ⟨lb,lo + k,none⟩=some (aB (some ⟨pb,po,none⟩) m lcp)∧w'.cell? ⟨pb,po + p * 3,none⟩=some (aF aG s1)∧w'.cell? ⟨pb,po + p * 3 + 1,none⟩=some (aA PF)∧w'.cell? ⟨pb,po + p * 3 + 2,none⟩=some (aA PE)∧w'.cell? ⟨pb,po + j * 3,none⟩=some (aF aG s2)∧w'.cell? ⟨pb,po + j * 3 + 1,none⟩=some (aA (bs Q1))∧w'.cell? ⟨pb,po + j * 3 + 2,none⟩=some (aA (bs Q2))∧w'.cell? ⟨pb,po + q * 3,none⟩=some (aF aG s3)∧w'.cell? ⟨pb,po + q * 3 + 1,none⟩=some (aA RF)∧w'.cell? ⟨pb,po + q * 3 + 2,none⟩=some (aA RE)) ((refine⟨?_, ?_, ?_, ?_, ?_, ?_, ?_, ?_, ?_, ?_⟩) <;> (repeat (first | assumption | refine keepA ?_ | refine keepD ?_))) (fail)
      all_goals
       go_wp2;go_meet;case rel=> first | exact⟨_,_,_,rfl,rfl,rfl,pq _ _ _ _⟩ | exact⟨_,_,_,rfl,rfl,rfl,pr _ _ _ _⟩ | exact⟨_,_,_,rfl,rfl,rfl,pu _ _ _ _⟩ | exact⟨_,_,_,rfl,rfl,rfl,pv _ _ _ _⟩ | exact⟨_,_,_,rfl,rfl,rfl,pw _ _ _ _⟩ | exact⟨_,_,_,rfl,rfl,rfl,qd _ _ _ _⟩
     case rest=>
     obtain⟨gb,BK,ib,rfl,rfl,rfl,HJ⟩:=hcut;clear v1 v2 v3 x1 x2 x3 hm0 jm pm qm p0 q0 kn w1 w2 w3 GG hmod2 l1 l2 d0 d1 d2 e0 e1 e2 f0 f1 f2 Pq;rename aE=> w3;have HBq:=zq HJ.out.2.2.2.1;have HB3:=zq (aT rO.out HBq.out);have hgh:=HJ.out.2.2.2.2.1;have hih:=HJ.out.2.2.2.2.2.1;have hwh:=HJ.out.2.2.2.2.2.2;have G1:=zq HJ.out.1;have G2:=zq HJ.out.2.1;have G3:=zq HJ.out.2.2.1;obtain⟨g0,g1,g2⟩:=G1.out.three;obtain⟨q0,q1,q2⟩:=G2.out.three;have b1:=HU1.out _ HB3.out;have b2:=HU2.out _ HB3.out;have k1:=ZO.out _ HB3.out;have z1:=G2.out.fz 1;have n1:(s1:Int) < (nf:Int):=by omega
     have n2:(s2:Int) < (nf:Int):=by omega
     have n3:(s3:Int) < (nf:Int):=by omega
     obtain⟨FR,hFR⟩:∃ l,(if u1=(fs.getD s2 default).up then Q1 else at'.getD s1 [])=l:=⟨_,rfl⟩;obtain⟨EN,hEN⟩:∃ l,(if (fs.getD s2 default).up=(fs.getD s3 default).up then Q2 else at'.getD s3 [])=l:=⟨_,rfl⟩;rw [hFR,hEN] at HMj;have HFR:=zq hFR;have HEN:=zq hEN;clear hFR hEN HJ;generalize (fs.getD s2 default).up=u2 at *;generalize (fs.getD s3 default).up=u3 at *;obtain⟨SQ1,hSQ1⟩:∃ x,bs Q1=x:=⟨_,rfl⟩;obtain⟨SQ2,hSQ2⟩:∃ x,bs Q2=x:=⟨_,rfl⟩;obtain⟨SA1,hSA1⟩:∃ x,bs (at'.getD s1 [])=x:=⟨_,rfl⟩;obtain⟨SA3,hSA3⟩:∃ x,bs (at'.getD s3 [])=x:=⟨_,rfl⟩;obtain⟨SFR,hSFR⟩:∃ x,bs FR=x:=⟨_,rfl⟩;obtain⟨SEN,hSEN⟩:∃ x,bs EN=x:=⟨_,rfl⟩;rw [hSQ1,hSQ2] at G2;rw [hSQ1] at q1;rw [hSQ2] at q2;rw [hSA1] at k1 ZO;rw [hSA3] at HA3;have E1:aY (u1=u2→SFR=SQ1):=fun h=> by rw [← hSFR,← HFR.out,ip h,hSQ1]
     have E2:aY (u1≠u2→SFR=SA1):=fun h=> by rw [← hSFR,← HFR.out,iN h,hSA1]
     have E3:aY (u2=u3→SEN=SQ2):=fun h=> by rw [← hSEN,← HEN.out,ip h,hSQ2]
     have E4:aY (u2≠u3→SEN=SA3):=fun h=> by rw [← hSEN,← HEN.out,iN h,hSA3]
     have S1:=zq hSFR;have S2:=zq hSEN;clear HFR HEN hSQ1 hSQ2 hSA1 hSA3 hSFR hSEN;go_upto_region 11 with (fail)
     go_cut [74] (fun v W=> v=aM (!(u1==u2))∧∃ q,W=w3.drewN q);case first=>
      go_quiet (fail)
      go_wp2;go_meet;case rel=> exact⟨rfl,_,rfl⟩
     case rest=>
     obtain⟨rfl,dq,rfl⟩:=hcut;go_upto_if 74 with (fail);have G1d:aY (bZ (w3.drewN dq) gb #[aF aG s1,aA PF,aA PE] 46):=G1.out;have G2d:aY (bZ (w3.drewN dq) BK #[aF aG s2,aA SQ1,aA SQ2] 46):=G2.out;have G3d:aY (bZ (w3.drewN dq) ib #[aF aG s3,aA RF,aA RE] 46):=G3.out;have Nn:aY (aJ wr.heap.size wr (w3.drewN dq)):=qg HBq.out dq;go_cut [] (fun W=> aY (bZ W gb #[aF aG s1,aA PF,aA PE] 46)∧aY (bZ W BK #[aF aG s2,aA SFR,aA SQ2] 46)∧aY (bZ W ib #[aF aG s3,aA RF,aA RE] 46)∧aY (aJ wr.heap.size wr W));case first=>
      by_cases hu:u1=u2
      ·have e:=E1.out hu;have Ee:=zq e;clear e;cases u1 <;> cases u2 <;> (try (exact absurd hu (by decide))) <;> clear hu;all_goals
        go_wp2;go_meet;case rel=> exact⟨G1d.out,by rw [Ee.out];exact G2d.out,G3d.out,Nn.out⟩
      ·have Ee:=zq (E2.out hu);cases u1 <;> cases u2 <;> (try (exact absurd rfl hu)) <;> clear hu;all_goals
        go_wp2;go_meet;case rel=> exact⟨G1d.out.other _ hgh,by rw [Ee.out];exact G2d.out.set 1 _,G3d.out.other _ hih,Nn.out.setCell hwh _⟩
     case rest=>
     obtain⟨H1,H2,H3,vG⟩:=hcut;clear g0 g1 g2 q0 q1 q2 b1 b2 k1 z1 G1 G2 G3 G1d G2d G3d HBq HB3 Nn E1 E2;rename aE=> w4;have HB4w:=zq (aT rO.out vG.out);obtain⟨g0,g1,g2⟩:=H3.out.three;obtain⟨q0,q1,q2⟩:=H2.out.three;have b1:=HU3.out _ HB4w.out;have b2:=HU2.out _ HB4w.out;have k1:=HA3.out _ HB4w.out;have z2:=H2.out.fz 2;go_upto_region 13 with (fail)
     go_cut [93] (fun v W=> v=aM (!(u3==u2))∧∃ q,W=w4.drewN q);case first=>
      go_quiet (fail)
      go_wp2;go_meet;case rel=> exact⟨rfl,_,rfl⟩
     case rest=>
     obtain⟨rfl,dq,rfl⟩:=hcut;go_upto_if 93 with (fail);have G2d:aY (bZ (w4.drewN dq) BK #[aF aG s2,aA SFR,aA SQ2] 46):=H2.out;have Nn:aY (aJ wr.heap.size wr (w4.drewN dq)):=qg vG.out dq;go_cut [] (fun W=> aY (bZ W BK #[aF aG s2,aA SFR,aA SEN] 46)∧aY (aJ wr.heap.size wr W));case first=>
      by_cases hu:u2=u3
      ·have Ee:=zq (E3.out hu);cases u2 <;> cases u3 <;> (try (exact absurd hu (by decide))) <;> clear hu;all_goals
        go_wp2;go_meet;case rel=> exact⟨by rw [Ee.out];exact G2d.out,Nn.out⟩
      ·have Ee:=zq (E4.out hu);cases u2 <;> cases u3 <;> (try (exact absurd rfl hu)) <;> clear hu;all_goals
        go_wp2;go_meet;case rel=> exact⟨by rw [Ee.out];exact G2d.out.set 2 _,Nn.out.setCell hwh _⟩
     case rest=>
     obtain⟨H2,wV⟩:=hcut;clear g0 g1 g2 q0 q1 q2 b1 b2 k1 z2 G2d H1 H3 vG HB4w Nn E3 E4;rename aE=> w5;obtain⟨q0,q1,q2⟩:=H2.out.three;have HB5o:=zq (aT yZ.out wV.out);have hown:=cT mV.out wV.out;have uN:=HB5o.out.size;have e6:dL (ML.take j) ++ [aF aG s2,aA SFR,aA SEN]=dL (ML.take (j + 1)):=by
      rw [HMj.out,Qd,← S1.out,← S2.out]
     have E6:=zq e6;clear e6 mV;go_wp2_with (at_builtin;refine pk rfl _ _ rfl wo.heap.size (aB al j cl) j _ rfl hown _ _ _ rfl (by omega) uN ?_;intro g6 SX w6 wY hg6 Ck)
     have pF:=zq (dB HB5o.out Ck hown (aD _) uN);rw [E6.out] at wY;have SY:=zq wY;clear hown wY Ck;go_wp2;go_roundw;case rel=> exact⟨j + 1,_,SX,by go_num,by omega,rfl,SY.out,pF.out⟩
     case measure=> simp only [aK];omega
    ·obtain rfl:m=j:=by omega
     rw [HML.out] at mV;have HBo:=zq (aT HB.out yZ.out);have Bq:=zq (HO.out.below yZ.out);have QR:=zq (gN mV.out HB.out.size);have cg:aY ((iJ ++ [(⟨al,cl,ML⟩:Lp)]).map Lp.ps=MA.take (k + 1)):=by
      show _=_;rw [List.map_append,Hq.out,HMk.out];rfl
     clear mV yZ HO Pq;have uE:=Bq.out.1;rw [SW.out] at uE;have JN:(iJ ++ [(⟨al,cl,ML⟩:Lp)]).length=k + 1:=by rw [cU,SW.out];rfl
     have wH:=zq JN;clear JN;go_wp2_with (at_builtin;refine TC rfl _ _ rfl w.heap.size (aB (some ⟨gd,0,none⟩) k co) k _ rfl uE al m cl rfl (by omega) HBo.out.size ?_;intro g8 Fl w8 De hg8 Fm)
     have VE:=zq (dB HBo.out Fm uE (aD _) HBo.out.size);have HO8:aY (nB w.heap.size w8 (aB (some ⟨g8,0,none⟩) (k + 1) Fl) (iJ ++ [⟨al,cl,ML⟩])):=by
      have:=nB.grow (l:=⟨al,cl,ML⟩) (g:=g8) (cap:=Fl) Bq.out (by
       have:=QR.out;show B3 _ _ _ _ (aB al ML.length cl) ML.length (dL ML);rw [HMn.out];exact this) Fm (by
       rw [SW.out];show B3 _ _ _ _ _ _ (_ ++ [aB al ML.length cl]);rw [HMn.out];exact De)
      rwa [SW.out] at this
     clear uE De Fm Bq QR;go_wp2;go_roundw;case rel=> exact⟨_,Fl,iJ ++ [⟨al,cl,ML⟩],by rw [wH.out];go_num,by rw [wH.out];omega,by rw [wH.out],by rw [wH.out];exact cg.out,by rw [wH.out];exact HO8.out,VE.out⟩
     case measure=> simp only [aK];omega
  ·obtain rfl:n=k:=by omega
   rw [HMe.out] at Hq;have R:aY (RetM w n MA (aO (aB (some ⟨gd,0,none⟩) n co)) wr):=⟨⟨gd,co,iJ,rfl,Hq.out,nB.reads HO.out⟩,HB.out⟩;clear wO;go_wp2;go_ret;exact R.out
theorem XW{fs:List Fr}{x y:List UInt8}{ls:List Lp}(h:fH fs [x,y] ls=0):(∀f∈fs,xN f=0)∧dR x=0∧dR y=0∧ls.length≤24:=by
 obtain⟨h1,h2,h3⟩:=DZ h;exact⟨h1,h2 x (by simp),h2 y (by simp),h3⟩
theorem qh (a b:Option dE) (nf n ca cb:Nat) (fs:List Fr) (ls:List Lp) (x y:List UInt8) (w:aE) (hE:eZ w)
 (hf:fs.length=nf) (hl:ls.length=n) (FK:nf≤1000) (hn:n≤1000000) (pK:∀ f∈fs,f.sp.length≤30∧f.st.length≤30) (sW:Fk ls) (hx:x.length≤8000000) (hy:y.length≤8000000)
 (rf:wP w a fs) (rl:zP w b ls) :
 aQ aC 12 #[aB a nf ca,aB b n cb,aA (bs x),aA (bs y)] w (G7 w (kZ fs ls x y) (iO fs ls x y)):=by
 have fP:=(aI w.heap.size w).alloc (aD _) (aL #[aA (bs x),aA (bs y)] 24);have rz:xO (w.alloc (aL #[aA (bs x),aA (bs y)] 24)) (some ⟨w.heap.size,0,none⟩) [x,y]:=by
  have q:=bZ.new w #[aA (bs x),aA (bs y)] 24;intro i hi;have hi:i < 2:=hi;match i,hi with
  | 0,_=> exact⟨_,_,rfl,q.cell 0⟩
  | 1,_=> exact⟨_,_,rfl,q.cell 1⟩
 have HC:=zq (IJ a b (some ⟨w.heap.size,0,none⟩) nf n 2 ca cb 2 fs ls [x,y] _ (hE.below fP) hf hl rfl (by omega) hn (by decide) (fun f h=> by have:=pK f h;omega) (fun z hz=> by simp only [Um,MM,or_false] at hz;rcases hz with rfl | rfl <;> assumption) (fun l h=> (sW l h).1) (rf.below fP) (rl.below fP) rz);have UA:fH fs [x,y] ls=0→(∀ f∈fs,f.Ok)∧dR x=0∧dR y=0∧n≤24:=fun h=> by
  obtain⟨h1,h2,h3,h4⟩:=XW h;exact⟨fun f hm=> ⟨h1 f hm,(pK f hm).1,(pK f hm).2⟩,h2,h3,by omega⟩
 have uP:aY (fH fs [x,y] ls=0→∀ W,aJ w.heap.size w W→aQ aC 27 #[aB a nf ca,aB b n cb,aA (bs x),aM true] W (Rt (aM (mL fs (iP fs x) ls true)) W)):=fun h W hW=> by
  obtain⟨h1,h2,h3, -⟩:=UA h;exact XE a b nf n ca cb fs ls x true W (hE.below hW) hf hl (by omega) hn h1 sW h2 (rf.below hW) (rl.below hW)
 have HOr:aY (fH fs [x,y] ls=0→∀ W,aJ w.heap.size w W→aQ aC 48 #[aA (bs y),aA (bs x)] W (Rt (aF aG (gY y x).1) W)):=fun h W hW=> by
  have:=A0 (bs y) (bs x) W (hE.below hW) (by rw [bU];exact hy) (by rw [bU];exact hx);rwa [aX,aX] at this
 have VZ:aY (fH fs [x,y] ls=0→∀ W,aJ w.heap.size w W→aQ aC 49 #[aB a nf ca,aA (bs x),aA (bs y)] W (Ty fs x y W)):=fun h W hW=> by
  obtain⟨h1,h2,h3, -⟩:=UA h;exact ZY a nf ca fs x y W (hE.below hW) hf FK h1 h2 h3 (rf.below hW)
 have IS:aY (fH fs [x,y] ls=0→∀ W,aJ w.heap.size w W→aQ aC 28 #[aB a nf ca,aA (bs y)] W (zj W.heap.size W (iP fs y))):=fun h W hW=> by
  obtain⟨h1,h2,h3, -⟩:=UA h;exact Ar a nf ca fs y W (hE.below hW) hf (by omega) h1 h3 (rf.below hW)
 have ue:mL fs (iP fs x) ls true=true→∀ i,i < n→∀ j,j < (ls.getD i default).ps.length→∃ s:Nat,((ls.getD i default).ps.getD j default).side=s∧s < nf:=fun h i hi j hj=> by
  obtain⟨s,h1,h2⟩:=D3 h (by rw [hl];exact hi) hj;exact⟨s,h1,by omega⟩
 have HMv:aY (fH fs [x,y] ls=0→mL fs (iP fs x) ls true=true→∀ g cap W,aJ w.heap.size w W→xO W (some ⟨g,0,none⟩) (iP fs y)→aQ aC 50 #[aB a nf ca,aB (some ⟨g,0,none⟩) nf cap,aB b n cb] W (RetM W n (eV fs (iP fs y) ls))):=fun h h2 g cap W hW ra=>
  Z4 a (some ⟨g,0,none⟩) b nf n ca cap cb fs (iP fs y) ls W hf (by rw [rR];exact hf) hl (by omega) hn (fun i hi=> (sW _ (cP (by rw [hl];exact hi) default)).1) (ue h2) (rf.below hW) ra (rl.below hW)
 have Oy:aY (fH fs [x,y] ls=0→mL fs (iP fs x) ls true=true→∀ i,i < n→((eV fs (iP fs y) ls).getD i []).length≤1000000∧∀ j,j < ((eV fs (iP fs y) ls).getD i []).length→
  (∃ s:Nat,(((eV fs (iP fs y) ls).getD i []).getD j default).side=s∧s < nf)∧(((eV fs (iP fs y) ls).getD i []).getD j default).fr.length≤8000000∧(((eV fs (iP fs y) ls).getD i []).getD j default).en.length≤8000000):=fun h h2 i hi=> by
  obtain⟨h1, -,h3, -⟩:=UA h;obtain⟨k1,k2⟩:=Tm (fs:=fs) (nf:=nf) sW (Mu h1 h3) (fun i hi=> ue h2 i (by omega)) (i:=i) (by rw [hl];exact hi);exact⟨by rw [k1];exact(sW _ (cP (by rw [hl];exact hi) default)).1,fun j hj=> k2 j (by rw [← k1];exact hj)⟩
 have HSh:aY (∀ s:List UInt8,s.length≤8000000→∀ W,aJ w.heap.size w W→aQ aC 52 #[aA (bs s)] W (Rt (aM (decide (dR s=0))) W)):=fun s hs W hW=> by
  have:=IH (bs s) W (hE.below hW) (by rw [bU];exact hs);rwa [aX] at this
 have HCm:aY (∀ s t:List UInt8,s.length≤8000000→t.length≤8000000→∀ W,aJ w.heap.size w W→aQ aC 48 #[aA (bs s),aA (bs t)] W (Rt (aF aG (gY s t).1) W)):=fun s t hs ht W hW=> by
  have:=A0 (bs s) (bs t) W (hE.below hW) (by rw [bU];exact hs) (by rw [bU];exact ht);rwa [aX,aX] at this
 have V9:aY (fH fs [x,y] ls=0→∀ f∈fs,f.dir=1∨f.dir= -1):=fun h f hf=> ((UA h).1 f hf).dir;obtain⟨c1,c2,c3,c4⟩:=uG fs ls x y;have V0:=zq (fun h=> zC (fs:=fs) (ls:=ls) (x:=x) (y:=y) h);have V1:=zq (fun h=> D4 (fs:=fs) (ls:=ls) (x:=x) (y:=y) h);have C1:=zq c1;have C2:=zq c2;have C3:=zq c3;have C4:=zq c4;have Hf:=zq hf;have Rf:=zq rf;have mE:=zq fP;have qi:aY ((eV fs (iP fs y) ls).length=n):=by show _=_;rw [vH];exact hl
 have hN:aY ((iP fs y).length=nf):=by show _=_;rw [rR];exact hf
 clear hE hf hl pK sW hx hy rf rl rz fP UA ue c1 c2 c3 c4;have JK:aY (∀ c:Int,iO fs ls x y=c→c≠0→∀ W g,aJ w.heap.size w W→G7 w (kZ fs ls x y) (iO fs ls x y) (aO (.tuple #[aB (some ⟨g,0,none⟩) 0 0,aF aG c])) W):=fun c h h2 W g hB=>
  ⟨⟨_,0, [],by rw [V0.out (by rw [h];exact h2),h];rfl,by rw [V0.out (by rw [h];exact h2)];rfl,fun i hi=> absurd hi (by simp)⟩,hB⟩
 generalize kZ fs ls x y=PV at *;generalize iO fs ls x y=PE at *;generalize eV fs (iP fs y) ls=MA at *;generalize iP fs y=LY at *;generalize mL fs (iP fs x) ls true=AL at *;generalize (gY y x).1=CM at *;generalize bs x=X at *;generalize bs y=Y at *;by_cases h0:fH fs [x,y] ls=0;case neg=>
  have e2:=zq (JK.out _ (C1.out h0) h0);have h' :(fH fs [x,y] ls !=0)=true:=by rw [bne_iff_ne];exact h0
  clear h0 C1 C2 C3 C4 uP HOr VZ IS HMv Oy V9 JK;generalize fH fs [x,y] ls=c at *;go_enter KT,Jm;go_wp2_with fail
  refine kb HC.out mE.out fun W1 fK=> ?_;go_wp2;go_ret2;exact e2.out _ _ (fK.out.alloc fK.out.size _)
 case pos=>
 rw [h0] at HC;have uP:=zq (uP.out h0);have HOr:=zq (HOr.out h0);have VZ:=zq (VZ.out h0);have IS:=zq (IS.out h0);have HMv:=zq (HMv.out h0);have Oy:=zq (Oy.out h0);have V9:=zq (V9.out h0);have C2:=zq (C2.out h0);have C3:=zq (C3.out h0);have C4:=zq (C4.out h0);clear h0 C1;cases AL with
 | false=>
  have e2:=zq (JK.out 1 (C2.out rfl) (by decide));clear C2 C3 C4 HOr VZ IS HMv Oy V9 JK;go_enter KT,Jm;go_wp2_with fail
  refine kb HC.out mE.out fun W1 fK=> ?_;go_wp2_with fail
  refine kb (uP.out _ fK.out) fK.out fun W2 gD=> ?_;go_wp2;go_ret2;exact e2.out _ _ (gD.out.alloc gD.out.size _)
 | true=>
 have HMw:=zq (HMv.out rfl);have qj:=zq (Oy.out rfl);have K3:=zq (C3.out rfl);have K4:=zq (C4.out rfl);clear C2 C3 C4 HMv Oy;by_cases hcm:CM < 0;case pos=>
  have e2:=zq (JK.out 2 (K3.out (.inl hcm)) (by decide));clear K3 K4 VZ IS HMw qj V9 JK;go_enter KT,Jm;go_wp2_with fail
  refine kb HC.out mE.out fun W1 fK=> ?_;clear HC mE;go_wp2_with fail
  refine kb (uP.out _ fK.out) fK.out fun W2 gD=> ?_;clear uP fK;go_wp2_with fail
  refine kb (HOr.out _ gD.out) gD.out fun W3 HB3=> ?_;clear HOr gD;go_wp2;go_ret2;exact e2.out _ _ (HB3.out.alloc HB3.out.size _)
 case neg=>
 have L3:=zq (fun h=> K3.out (.inr h));have L4:=zq (K4.out hcm);have hcd:decide (CM < 0)=false:=decide_eq_false hcm;clear K3 K4 hcm;go_enter KT,Jm;go_wp2_with fail
 refine kb HC.out mE.out fun W1 fK=> ?_;clear HC mE;go_wp2_with fail
 refine kb (uP.out _ fK.out) fK.out fun W2 gD=> ?_;clear uP fK;go_wp2_with fail
 refine kb (HOr.out _ gD.out) gD.out fun W3 HB3=> ?_;clear HOr gD;go_wp2_with fail
 refine(VZ.out _ HB3.out).mono ?_;rintro e W4 ⟨⟨eb,rfl,heb⟩,hb4⟩;have vG:=zq (aT HB3.out hb4);have Heb:=zq heb;clear hb4 heb VZ HB3 hcd;cases eb with
 | true=>
  have e2:=zq (JK.out 2 (L3.out (Heb.out.1 rfl)) (by decide));go_wp2;go_ret2;exact e2.out _ _ (vG.out.alloc vG.out.size _)
 | false=>
 have M4:=zq (L4.out (fun h=> (by have:=Heb.out.2 h;cases this)));clear L3 L4 Heb;go_wp2_with fail
 refine(IS.out _ vG.out).mono ?_;rintro e W5 ⟨g5,Tr,rfl, -,ha,hb5⟩;rw [hN.out];have wV:=zq (aT vG.out hb5);have Ha:=zq ha;clear ha hb5 IS hN vG;go_wp2_with fail
 refine(HMw.out _ _ _ wV.out Ha.out).mono ?_;rintro e W6 ⟨⟨g6,SX,iJ,rfl,hq,rl6⟩,hb6⟩;have pF:=zq (aT wV.out hb6);have Hq:=zq hq;have Rl:=zq rl6;have ZZ:aY (iJ.length=n):=by show _=_;rw [← qi.out,← hq,cG]
 clear hq rl6 hb6 HMw Ha wV;have D0:=zq (Oq (oR fs) MA);have D1:=zq (Oq uF MA);generalize hlz:wI uF MA 0 0=lz at D1;have hlz2:false=wI uF MA 0 0:=by rw [hlz];exact D1.out.symm
 have HLz:=zq hlz2;clear hlz hlz2 D1;go_wp2;go_loopw [12,13] (fun l i wr=> ∃ (k:Nat) (lim:Bool),i=aF aG k∧k≤n∧l=aM lim∧aY (lim=wI uF MA k 0)∧aY (wI (oR fs) MA k 0=false)∧aY (aJ W6.heap.size W6 wr)) (fun _ i _=> n - (aK i).toNat);case atStart=> exact⟨0,false,rfl,bR _,rfl,HLz.out,D0.out,aI _ _⟩
 case round=>
  clear HLz D0;obtain⟨k,lim,rfl,hk,rfl,ZV,UB,HB⟩:=hrel;by_cases hlt:k < n
  ·obtain⟨lb,lo,e1,c0,rp⟩:=(Rl.out.below HB.out).at (i:=k) (by rw [ZZ.out];exact hlt) rfl;injection e1 with e1;injection e1 with e1 e2;subst e1 e2;have hqk:(iJ.getD k default).ps=MA.getD k []:=by
    rw [← Hq.out];have:k < iJ.length:=by rw [ZZ.out];exact hlt
    simp [aN,this]
   have hrk:∀ W,aJ W6.heap.size W6 W→W.cell? ⟨g6,k,none⟩=some (aB (iJ.getD k default).a (iJ.getD k default).ps.length (iJ.getD k default).cap)∧Fg W (iJ.getD k default).a (iJ.getD k default).ps:=fun W h=> by
    obtain⟨b',o',e,c,r⟩:=(Rl.out.below h).at (i:=k) (by rw [ZZ.out];exact hlt) rfl;injection e with e;injection e with e1 e2;subst e1 e2;rw [gL] at c;exact⟨c,r⟩
   rw [gL] at c0;have HRk:=zq hrk;obtain⟨zW,hpk⟩:=qj.out k hlt;have HNx1:aY (wI uF MA (k + 1) 0=wI uF MA k (MA.getD k []).length):=Ou _ _ _;have HNx2:aY (wI (oR fs) MA (k + 1) 0=wI (oR fs) MA k (MA.getD k []).length):=Ou _ _ _;have HSt1:=zq (fun j=> Ot uF MA k j);have HSt2:=zq (fun j=> Ot (oR fs) MA k j);have HHit:aY (∀ j,j < (MA.getD k []).length→oR fs ((MA.getD k []).getD j default)=true→MA.flatten.any (oR fs)=true):=fun j hj h=> mx (by rw [qi.out];exact hlt) hj h;rw [← hqk] at zW hpk HNx1 HNx2 HSt1 HSt2 HHit;have Hpk:=zq hpk;clear hqk hrk hpk rp;generalize iJ.getD k default=l at *;obtain⟨la,lcp,ps⟩:=l;simp only [] at *;obtain⟨m,hm⟩:=nm ps.length;rw [hm] at zW c0 HRk Hpk HNx1 HNx2 HHit;have Hm:=zq hm;clear hm;go_wp2;go_loopw [12,14] (fun l i wr=> ∃ (j:Nat) (lim:Bool),i=aF aG j∧j≤m∧l=aM lim∧aY (lim=wI uF MA k j)∧aY (wI (oR fs) MA k j=false)∧aY (aJ W6.heap.size W6 wr)) (fun _ i _=> m - (aK i).toNat);case atStart=> exact⟨0,lim,rfl,bR _,rfl,ZV.out,UB.out,HB.out⟩
   case round=>
    obtain⟨j,lim2,rfl,hj,rfl,ul,Ed,Ad⟩:=hrel;obtain⟨Pq,rp⟩:=HRk.out _ Ad.out;by_cases hlt2:j < m
    ·obtain⟨pb,po,rfl,d0,d1,d2⟩:=rp.at (i:=j) (by rw [Hm.out];exact hlt2) rfl;obtain⟨⟨s,hs,BQ⟩,hl1,hl2⟩:=Hpk.out j hlt2;have JU:=zq (HSt1.out j);have HSt2j:=zq (HSt2.out j);have HHj:=zq (HHit.out j hlt2);have HDs:=V9.out _ (cP (i:=s) (by rw [Hf.out];exact BQ) (default:Fr));have jt:=KJ V9.out hs (by rw [Hf.out];exact BQ);have br:aY (wG fs (ps.getD j default)=(gY (ps.getD j default).en (ps.getD j default).fr).1 * yW (fs.getD s default)):=by show _=_;unfold wG;rw [hs];rfl
     have Kk:aY (oR fs (ps.getD j default)=decide (wG fs (ps.getD j default) < 0)):=rfl;have HLp:aY (uF (ps.getD j default)=(decide (dR (ps.getD j default).fr≠0) || decide (dR (ps.getD j default).en≠0))):=rfl;have HCm2:=zq (HCm.out _ _ hl2 hl1);have bo:=zq (HSh.out _ hl1);have tt:=zq (HSh.out _ hl2);have HFw:=zq fun W=> Dc _ HDs W;clear HDs hl1 hl2;have HRf:aY (∀ W,aJ w.heap.size w W→wP W a fs):=fun W hW=> Rf.out.below hW;have hBw:=zq (aT pF.out Ad.out);have hz4:wr.heap.size < wr.heap.size + 1:=Nat.lt_succ_self _;unfold Fr.v Fr.cells at HFw;obtain⟨fb,fo,rfl,f0,f1,f2,f3,f4⟩:=(HRf.out _ hBw.out).at (i:=s) (by rw [Hf.out];exact BQ) rfl;generalize oR fs (ps.getD j default)=BP at *;generalize uF (ps.getD j default)=LP at *;generalize wG fs (ps.getD j default)=AD at *;generalize (gY (ps.getD j default).en (ps.getD j default).fr).1=CC at *;generalize dR (ps.getD j default).fr=N1 at *;generalize dR (ps.getD j default).en=N2 at *;generalize ps.getD j default=P at *;generalize fs.getD s default=f at *;generalize yW f=FW at *;obtain⟨uM,yX,kX,DX,KI⟩:=f;obtain⟨side,fr,en⟩:=P;simp only [] at *;subst hs;generalize bs DX=FSP at *;generalize bs KI=FST at *;generalize bs fr=FR at *;generalize bs en=EN at *;have hw:IntKind.i64.wrap (CC * FW)=AD:=by rw [← br.out];exact aP _ (by omega)
     have Hw:=zq hw;have hjm:(j:Int) < (m:Int):=by omega
     have hkn:(k:Int) < (n:Int):=by omega
     have hsf:(s:Int) < (nf:Int):=by omega
     have Q4:=zq (bZ.new wr #[aF aG s,aA FR,aA EN] 46);have HBa:=zq ((aI wr.heap.size wr).alloc (aD _) (aL #[aF aG s,aA FR,aA EN] 46));clear hw jt br;go_upto_region 17 with (fail)
     obtain⟨WA,ts⟩:=nm (wr.alloc (aL #[aF aG s,aA FR,aA EN] 46));rw [ts] at Q4 HBa ⊢;have g0:=bV HBa.out f0;have g1:=bV HBa.out f1;have g2:=bV HBa.out f2;have g3:=bV HBa.out f3;have g4:=bV HBa.out f4;clear ts f0 f1 f2 f3 f4 d0 d1 d2 Pq;have HBy:=zq (aT Ad.out HBa.out);have HBz:=zq (aT pF.out HBy.out);generalize wr.heap.size=b4 at *;obtain⟨e0,e1,e2⟩:=Q4.out.three;have Xo:aY (aJ WA.heap.size WA WA.drew):=(aI _ WA).drew;have hw:=Hw.out;go_cut [83] (fun v W=> v=aM (decide (AD < 0))∧aY (aJ WA.heap.size WA W));case first=>
      go_region_held3 (fun w' => (w'.cell? ⟨b4,0,none⟩=some (aF aG s)∧w'.cell? ⟨b4,1,none⟩=some (aA FR)∧w'.cell? ⟨b4,2,none⟩=some (aA EN))∧w'.cell? ⟨fb,fo + s * 5,none⟩=some (aM uM)∧w'.cell? ⟨fb,fo + s * 5 + 1,none⟩=some (aF aG yX)∧w'.cell? ⟨fb,fo + s * 5 + 2,none⟩=some (aF aG kX)∧w'.cell? ⟨fb,fo + s * 5 + 3,none⟩=some (aA FSP)∧w'.cell? ⟨fb,fo + s * 5 + 4,none⟩=some (aA FST)) (go_keep)
       (first
        | (go_at_call 48;(with_reducible refine(HCm2.out _ (aT HBz.out Xo.out)).mono ?_);rintro e w1 ⟨rfl,hb1⟩;have Uz:=zq (aT Xo.out hb1);have:=ck hb1 b4 0 (aF aG s);have:=ck hb1 b4 1 (aA FR);have:=ck hb1 b4 2 (aA EN);have m0:=bV hb1 (p:=⟨fb,fo + s * 5,none⟩) (v:=aM uM) (by simp [*]);have m1:=bV hb1 (p:=⟨fb,fo + s * 5 + 1,none⟩) (v:=aF aG yX) (by simp [*]);have m2:=bV hb1 (p:=⟨fb,fo + s * 5 + 2,none⟩) (v:=aF aG kX) (by simp [*]);have m3:=bV hb1 (p:=⟨fb,fo + s * 5 + 3,none⟩) (v:=aA FSP) (by simp [*]);have m4:=bV hb1 (p:=⟨fb,fo + s * 5 + 4,none⟩) (v:=aA FST) (by simp [*]))
        | (go_at_call 51;(with_reducible refine(HFw.out _).mono ?_);rintro e w2 ⟨rfl,hb2⟩;have hBf:=zq (aT Uz.out hb2);have:=ck hb2 b4 0 (aF aG s);have:=ck hb2 b4 1 (aA FR);have:=ck hb2 b4 2 (aA EN);have m0:=bV hb2 (p:=⟨fb,fo + s * 5,none⟩) (v:=aM uM) (by simp [*]);have m1:=bV hb2 (p:=⟨fb,fo + s * 5 + 1,none⟩) (v:=aF aG yX) (by simp [*]);have m2:=bV hb2 (p:=⟨fb,fo + s * 5 + 2,none⟩) (v:=aF aG kX) (by simp [*]);have m3:=bV hb2 (p:=⟨fb,fo + s * 5 + 3,none⟩) (v:=aA FSP) (by simp [*]);have m4:=bV hb2 (p:=⟨fb,fo + s * 5 + 4,none⟩) (v:=aA FST) (by simp [*])))
      all_goals
       go_wp2;go_meet;case rel=> exact⟨by first | rfl | (rw [hw];done) | (rw [hw];rfl),hBf.out⟩
     case rest=>
     obtain⟨rfl,FJ⟩:=hcut;rename aE=> wc2;have Q5:=zq (Q4.out.below FJ.out Q4.out.lt);have Nn:=zq (aT HBy.out FJ.out);have un:=zq (aT pF.out Nn.out);clear hw g0 g1 g2 g3 g4 e0 e1 e2 Xo HBa HBy HBz FJ Q4 hBw HFw HCm2;obtain⟨e0,e1,e2⟩:=Q5.out.three;by_cases had:AD < 0
     ·have RX:=zq (JK.out 2 (by rw [M4.out,ip (HHj.out (by rw [Kk.out];exact decide_eq_true had))]) (by decide));go_wp2;go_ret2;exact RX.out _ _ (un.out.alloc un.out.size _)
     have RB:aY (wI (oR fs) MA k (j + 1)=false):=by show _=_;rw [HSt2j.out,Ed.out,Kk.out,decide_eq_false had];rfl
     clear Kk HHj;cases lim2 with
     | true=>
      have RL:aY (true=wI uF MA k (j + 1)):=by show _=_;rw [JU.out,← ul.out];rfl
      clear JU ul HLp;go_wp2;go_roundw;case rel=> exact⟨j + 1,true,by go_num,by omega,rfl,RL.out,RB.out,Nn.out⟩
      case measure=> simp only [aK];omega
     | false=>
      by_cases hn1:N1=0;case neg=>
       have fg:decide (N1=0)=false:=decide_eq_false hn1;have RL:aY (true=wI uF MA k (j + 1)):=by show _=_;rw [JU.out,← ul.out,HLp.out,decide_eq_true hn1];rfl
       clear JU ul HLp hn1;go_wp2_with fail
       (with_reducible refine(bo.out _ un.out).mono ?_);rintro e W8 ⟨rfl,hb8⟩;have VE:=zq (aT Nn.out hb8);clear hb8;go_wp2;go_roundw;case rel=> exact⟨j + 1,true,by go_num,by omega,rfl,RL.out,RB.out,VE.out⟩
       case measure=> simp only [aK];omega
      case pos=>
       have fg:decide (N1=0)=true:=decide_eq_true hn1;have HLp2:aY (uF ⟨s,fr,en⟩=uF ⟨s,fr,en⟩):=rfl;go_wp2_with fail
       (with_reducible refine(bo.out _ un.out).mono ?_);rintro e W8 ⟨rfl,hb8⟩;have VE:=zq (aT Nn.out hb8);have HB8e:=zq (aT un.out hb8);have Q8:=zq (Q5.out.below hb8 Q5.out.lt);clear hb8 e0 e1 e2 HLp2;obtain⟨e0,e1,e2⟩:=Q8.out.three;by_cases hn2:N2=0;case neg=>
        have MY:decide (N2=0)=false:=decide_eq_false hn2;have RL:aY (true=wI uF MA k (j + 1)):=by show _=_;rw [JU.out,← ul.out,HLp.out,decide_eq_true hn2,Bool.or_true];rfl
        clear JU ul HLp hn2;go_wp2_with fail
        (with_reducible refine(tt.out _ HB8e.out).mono ?_);rintro e W9 ⟨rfl,QM⟩;have V6:=zq (aT VE.out QM);clear QM;go_wp2;go_roundw;case rel=> exact⟨j + 1,true,by go_num,by omega,rfl,RL.out,RB.out,V6.out⟩
        case measure=> simp only [aK];omega
       case pos=>
        have MY:decide (N2=0)=true:=decide_eq_true hn2;have RL:aY (false=wI uF MA k (j + 1)):=by show _=_;rw [JU.out,← ul.out,HLp.out,hn1,hn2];rfl
        clear JU ul HLp;go_wp2_with fail
        (with_reducible refine(tt.out _ HB8e.out).mono ?_);rintro e W9 ⟨rfl,QM⟩;have V6:=zq (aT VE.out QM);clear QM;go_wp2;go_roundw;case rel=> exact⟨j + 1,false,by go_num,by omega,rfl,RL.out,RB.out,V6.out⟩
        case measure=> simp only [aK];omega
    ·obtain rfl:m=j:=by omega
     rw [← HNx2.out] at Ed;rw [← HNx1.out] at ul;go_wp2;go_roundw;case rel=> exact⟨k + 1,lim2,by go_num,by omega,rfl,ul.out,Ed.out,Ad.out⟩
     case measure=> simp only [aK];omega
  ·obtain rfl:n=k:=by omega
   have HAn1:aY (wI uF MA n 0=MA.flatten.any uF):=by show _=_;rw [← qi.out];exact Tn _ _
   have HAn2:aY (wI (oR fs) MA n 0=MA.flatten.any (oR fs)):=by show _=_;rw [← qi.out];exact Tn _ _
   have JO:=zq (aT pF.out HB.out);have FH:aY (¬ MA.flatten.any (oR fs)=true):=by show ¬ _;rw [← HAn2.out,UB.out];decide
   cases lim with
   | true=>
    have RX:=zq (JK.out 4 (by rw [M4.out,iN FH.out,ip (by rw [← HAn1.out,← ZV.out])]) (by decide));clear ZV UB HAn1 HAn2 FH;go_wp2;go_ret2;exact RX.out _ _ (JO.out.alloc JO.out.size _)
   | false=>
    have hpe:PE=0:=by rw [M4.out,iN FH.out,iN (by rw [← HAn1.out,← ZV.out];decide)]
    have R:aY (G7 w PV PE (aO (.tuple #[aB (some ⟨g6,0,none⟩) n SX,aF aG 0])) wr):=by
     have hpv:=V1.out hpe;refine⟨⟨some ⟨g6,0,none⟩,SX,iJ,by rw [hpv,qi.out,hpe],by rw [hpv];exact Hq.out,Rl.out.below HB.out⟩,JO.out⟩
    clear ZV UB HAn1 HAn2 FH hpe;go_wp2;go_ret2;exact R.out
end
section
open Go.Shelf
def Tryz.clK_ren:lI:=⟨fun |41=>40|n=>n,fun |22=>38|23=>46|4=>4|n=>n,fun |n=>n⟩
theorem Tryz.clK:sk aC Tryz.clK_ren:={
 mixed:=by kernel_rfl
 f41:=⟨Tryz.f40.name,by decide,func40.trans (congrArg some (by kernel_rfl))⟩
 t4:=iQ
 a4:=pB
 z4:=nF
 v4:=jM
 t22:=Jl
 a22:=isAgg38
 z22:=sizeOf38
 v22:=so}
def Tryz.grK_ren:lI:=⟨fun |4=>97|n=>n,fun |22=>38|25=>46|3=>3|4=>4|9=>9|20=>20|0=>0|n=>n,fun |n=>n⟩
theorem Tryz.grK:Go.Proofs.Lays8.n4 aC Tryz.grK_ren:={
 mixed:=by kernel_rfl
 f4:=⟨Tryz.f97.name,by decide,func97.trans (congrArg some (by kernel_rfl))⟩
 t0:=underlying0
 a0:=isAgg0
 z0:=sizeOf0
 v0:=zeroValue0
 t3:=underlying3
 a3:=isAgg3
 z3:=sizeOf3
 v3:=zeroValue3
 t4:=iQ
 a4:=pB
 z4:=nF
 v4:=jM
 t9:=underlying9
 a9:=isAgg9
 z9:=sizeOf9
 v9:=zeroValue9
 t20:=underlying20
 a20:=isAgg20
 z20:=sizeOf20
 v20:=zeroValue20
 t22:=Jl
 a22:=isAgg38
 z22:=sizeOf38
 v22:=so}
open Go Go.RowKit Go.Lib Go.Shelf
theorem JV{w:aE}{b off:Nat}{ps:List Pt}(h:Fg w (some ⟨b,off,none⟩) ps):∀(j:Nat)(u:bB),(dL ps)[j]? =some u→w.cell? ⟨b,off+j,none⟩=some u:=by
 intro j u hu;have hj:j<(dL ps).length:=by
  rcases Nat.lt_or_ge j (dL ps).length with h|h
  ·exact h
  ·rw[List.getElem?_eq_none h]at hu;cases hu
 rw[Ag]at hj;have hi:j/3<ps.length:=by omega
 obtain⟨k1,k2,k3⟩:=zF ps (j/3) hi;obtain⟨b',o',e,c1,c2,c3⟩:=h.at hi rfl;injection e with e;injection e with e1 e2;subst e1 e2;have hr:j%3=0∨j%3=1∨j%3=2:=by omega
 rcases hr with r|r|r
 ·rw[show j=j/3*3 by omega,k1]at hu;rw[show off+j=off+j/3*3 by omega,c1];exact hu
 ·rw[show j=j/3*3+1 by omega,k2]at hu;rw[show off+j=off+j/3*3+1 by omega,c2];exact hu
 ·rw[show j=j/3*3+2 by omega,k3]at hu;rw[show off+j=off+j/3*3+2 by omega,c3];exact hu
theorem JW(ps:List Pt):∀u∈dL ps,u.oneCell'=true:=by
 intro u hu;obtain⟨p,-,h⟩:=List.mem_flatMap.1 hu;simp only[Um,MM,or_false]at h;rcases h with rfl|rfl|rfl<;>rfl
theorem TE(b off n c:Nat)(ps:List Pt)(w:aE)(hl:ps.length=n)(hn:n≤1000000)(r:Fg w (some ⟨b,off,none⟩) ps):
 aQ aC 40 #[aB (some ⟨b,off,none⟩) n c] w fun e w'=>(∃g cap,e=aO (aB (some ⟨g,0,none⟩) n cap)∧w'.ownsRow w.heap.size 46 3 (aB (some ⟨g,0,none⟩) n cap) n (dL ps))∧aJ w.heap.size w w':=by
 obtain⟨i0,hi,D8,uY,hz2⟩:=OG D5;have H:=AnyE.slices_Clone Tryz.clK i0 (.agg #[aF aG 0,aA ⟨#[]⟩,aA ⟨#[]⟩]) 3 40 hi D8 uY hz2 rfl (by decide) sizeOf46 b off n c (dL ps) w (by rw[Ag,hl];omega) (by unfold cA;omega) (by omega) (JV r) (JW ps);refine wW H ?_;rintro e w'⟨v',rfl,hown,KY,hb⟩;refine⟨?_,hb⟩;rcases hown.2 with⟨h1,_⟩|⟨g,cap,D7,hv,_⟩
 ·exact absurd h1 KY
 ·subst hv;exact⟨g,cap,rfl,hown⟩
theorem Wa(n:Nat)(w:aE)(h0:0<n)(hn:n≤100000000):
 aQ aC 97 #[aB none 0 0,aF aG n] w fun e w'=>(∃g cap,e=aO (aB (some ⟨g,0,none⟩) 0 cap)∧w'.ownsRow w.heap.size 46 3 (aB (some ⟨g,0,none⟩) 0 cap) 0 [])∧aJ w.heap.size w w':=by
 obtain⟨i0,hi,D8,uY,hz2⟩:=OG D5;have H:=Any8.slices_Grow_grow Tryz.grK i0 (.agg #[aF aG 0,aA ⟨#[]⟩,aA ⟨#[]⟩]) hi D8 (by rw[uY];decide) none 0 0 n [] w (aD _) (by omega) (by rw[hz2];omega) (by omega) (by simp) (fun _=>rfl) (fun a e=>(by cases e));refine wW H ?_;rintro e w'⟨rfl,rfl⟩;refine⟨⟨w.heap.size,_,rfl,rfl,.inr ⟨w.heap.size,_,_,rfl,aD _,World.alloc_heap_new w.drew _,bR _,?_,?_,rfl⟩⟩,((aI _ w).drew.alloc (by simp) _)⟩
 ·exact grownCap_le_maxLen w _ _ _ (by unfold cA;omega)
 ·have:=grownCap_ge w (0+n) 0 (Tryz.grK_ren.t 25);rw[bf,bf,size_zeroCells,size_zeroCells];simp only[Value.cells,List.size_toArray,List.length_cons,List.length_nil];generalize grownCap w (0+n) 0 (Tryz.grK_ren.t 25)=c at *;omega
def lB(ls:List Lp):Nat→Nat
 |0=>0
 |k+1=>lB ls k+(ls.getD k default).ps.length
def oS(ls:List Lp):List Pt:=ls.flatMap Lp.ps
theorem EG{ls:List Lp}{k:Nat}(hk:k<ls.length):oS (ls.take (k+1))=oS (ls.take k)++(ls.getD k default).ps:=by
 unfold oS;rw[dQ hk,List.flatMap_append];simp[aN,hk]
theorem BW{ls:List Lp}:∀k,k≤ls.length→(oS (ls.take k)).length=lB ls k
 |0,_=>rfl
 |k+1,h=>by rw[EG (by omega),cU,BW k (by omega)];rfl
theorem Oz{ls:List Lp}(h:∀i,i<ls.length→(ls.getD i default).ps.length≤1000):∀k,k≤ls.length→lB ls k≤k*1000
 |0,_=>aD _
 |k+1,hk=>by
  have h1:=Oz h k (by omega)
  have h2:=h k (by omega)
  rw[lB,Nat.succ_mul];omega
theorem Z5{w:aE}{fA:Array Oper}{rest:List Oper}{o:Oper}{a:Act}{Q:Exit→Act→aE→Prop}(FD:o.guard=none)(s x:Operand)
 (ho:o.op=.call {callee:=.builtin .append,args:= #[s,x],argTypes:= #[38,38]})(base:Nat)
 (gv cv n:Nat)(xs:List bB)(hs:a.eval s=aB (some ⟨gv,0,none⟩) n cv)(hown:w.ownsRow base 46 3 (aB (some ⟨gv,0,none⟩) n cv) n xs)
 (b off m c:Nat)(ps:List Pt)(hx:a.eval x=aB (some ⟨b,off,none⟩) m c)(hl:ps.length=m)(hr:Fg w (some ⟨b,off,none⟩) ps)
 (QI:n+m≤100000000)(lK:base≤w.heap.size)
 (h:∀g cap w',w'.ownsRow base 46 3 (aB (some ⟨g,0,none⟩) (n+m) cap) (n+m) (xs++dL ps)→base≤g→w.grownBy w' (some gv)→
  wpList aC fA Q rest (a.put o.dst (aB (some ⟨g,0,none⟩) (n+m) cap)) w'):
 wpList aC fA Q (o::rest) a w:=by
 obtain⟨i0,hi,D8,uY,hz2⟩:=OG D5;refine wpList_append_own _ FD s x 38 ho base 46 i0 (.agg #[aF aG 0,aA ⟨#[]⟩,aA ⟨#[]⟩]) 3 40 Jl hi D8 uY hz2 rfl (by decide) _ n xs hs hown ⟨b,off,none⟩ m c (dL ps) hx (by rw[Ag,hl];omega) (fun j u hj=>by rw[Addr.add_lit];exact JV hr j u hj) (JW ps)
  (by unfold cA;omega) (by omega) lK ?_
 intro v' w' vR hg KY;rcases vR.2 with⟨h1,h2⟩|⟨g',F3,D7,hv,h3,-⟩
 ·exact absurd (KY.1 h1).1 (by simp)
 ·subst hv;exact h g' F3 w' vR h3 hg
theorem Qe (a:Option dE) (n ca:Nat) (ls:List Lp) (w:aE) (hl:ls.length=n) (hn:n≤1000) (rV:∀ i,i < n→(ls.getD i default).ps.length≤1000) (hps1:∀ i,i < n→1≤(ls.getD i default).ps.length) (hpos:0 < lB ls n) (rl:zP w a ls) :
 aQ aC 41 #[aB a n ca] w fun e w' => (∃ g cap,e=aO (aB (some ⟨g,0,none⟩) (lB ls n) cap)∧Fg w' (some ⟨g,0,none⟩) (oS ls))∧aJ w.heap.size w w' :=by
 have hsl:∀ k,k≤n→lB ls k≤k * 1000:=fun k hk=> Oz (by rw [hl];exact rV) k (by omega);have hmono:∀ k,k < n→lB ls (k + 1)=lB ls k + (ls.getD k default).ps.length:=fun k _=> rfl;have hbnd:∀ k,k≤n→lB ls k≤1000000:=fun k hk=> by have:=hsl k hk;have:k * 1000≤1000 * 1000:=Nat.mul_le_mul_right _ (by omega);omega
 have HA:aY (∀ k,k < n→oS (ls.take (k + 1))=oS (ls.take k) ++ (ls.getD k default).ps):=fun k hk=> EG (by omega);have HAn:aY (oS (ls.take n)=oS ls):=by show _=_;rw [dH (by omega)]
 have HLn:aY (∀ k,k≤n→(oS (ls.take k)).length=lB ls k):=fun k hk=> BW k (by omega);have Hb:=zq hbnd;have Hp1:=zq hps1;have Hm:=zq hmono;have Hl:=zq hl;have Rl:=zq rl;have HG:=zq (fun W=> Wa (lB ls n) W hpos (by have:=hbnd n (aD _);omega));have hbn:=hbnd n (aD _);clear hl rV hps1 rl hsl hmono hbnd;go_enter func41,ntmps41;go_wp2;go_loop [3,11] (fun s i=> ∃ k:Nat,i=aF aG k∧k≤n∧s=aF aG (lB ls k:Nat)) (fun _ i=> n - (aK i).toNat);case atStart=> exact⟨0,rfl,bR _,rfl⟩
 case round=>
  obtain⟨k,rfl,hk,rfl⟩:=hrel;by_cases hlt:k < n
  ·obtain⟨lb,lo,rfl,c0, -⟩:=Rl.out.at (i:=k) (by rw [Hl.out];exact hlt) rfl;have b1:=Hb.out k hk;have b2:=Hb.out (k + 1) hlt;have e2:=Hm.out k hlt;have HE:=zq e2;rw [e2] at b2;clear e2;generalize ls.getD k default=l at *;generalize l.ps.length=m at *;generalize l.a=la at *;generalize l.cap=lc at *;obtain⟨s1,Dx⟩:∃ s,lB ls (k + 1)=s:=⟨_,rfl⟩;rw [Dx] at HE;have HS1:=zq Dx;clear Dx;generalize lB ls k=s0 at *;go_wp2;go_round;case rel=> exact⟨k + 1,by go_num,by omega,by rw [HS1.out,HE.out];go_num⟩
   case measure=> simp only [aK];omega
  ·obtain rfl:n=k:=by omega
   obtain⟨N,hN⟩:∃ N,lB ls n=N:=⟨_,rfl⟩;rw [hN] at HG hbn ⊢;have HN:=zq hN;clear hN hpos;go_wp2_with fail
   refine(HG.out _).mono ?_;rintro e W1 ⟨⟨g0,cap0,rfl,GU⟩,hb1⟩;have fK:=zq hb1;have yj:=zq GU;clear hb1 GU HG;go_wp2;go_loopw [6,27] (fun o i wr=> ∃ (k g cap:Nat),i=aF aG k∧k≤n∧o=aB (some ⟨g,0,none⟩) (lB ls k) cap∧aY (wr.ownsRow w.heap.size 46 3 (aB (some ⟨g,0,none⟩) (lB ls k) cap) (lB ls k) (dL (oS (ls.take k))))∧aY (aJ w.heap.size w wr)) (fun _ i _=> n - (aK i).toNat);case atStart=> exact⟨0,g0,cap0,rfl,bR _,rfl,yj.out,fK.out⟩
   case round=>
    clear fK yj;obtain⟨k,g,cap,rfl,hk,rfl,mV,HB⟩:=hrel;by_cases hlt2:k < n
    ·obtain⟨lb,lo,rfl,c0,rp⟩:=(Rl.out.below HB.out).at (i:=k) (by rw [Hl.out];exact hlt2) rfl;have HE:=zq (Hm.out k hlt2);have b2:=Hb.out (k + 1) hlt2;rw [HE.out] at b2;have yv:=zq (HA.out k hlt2);obtain⟨pb,po,ea, -⟩:=rp 0 (Hp1.out k hlt2);have Rp:=zq rp;clear rp;generalize ls.getD k default=l at *;obtain⟨la,lc,ps⟩:=l;simp only [] at *;subst ea;obtain⟨m,hm⟩:∃ m,ps.length=m:=⟨_,rfl⟩;rw [hm] at c0 HE b2;have Hpl:=zq hm;clear hm;obtain⟨s1,Dx⟩:∃ s,lB ls (k + 1)=s:=⟨_,rfl⟩;rw [Dx] at HE;have HS1:=zq Dx;clear Dx;generalize lB ls k=s0 at *;have hown:=mV.out;have uN:=HB.out.size;have hb3:s0 + m≤100000000:=by omega
     go_wp2_with (at_builtin;refine Z5 rfl _ _ rfl w.heap.size g cap s0 _ rfl hown pb po m lc ps rfl Hpl.out Rp.out hb3 uN ?_;intro g5 Tr w5 qT hg5 Dk)
     have wV:=zq (dB (v:=aB (some ⟨g,0,none⟩) s0 cap) HB.out Dk hown (aD _) uN);rw [← TA,← yv.out,← HE.out] at qT;have UC:=zq qT;clear hown qT Dk;go_wp2;go_roundw;case rel=> exact⟨k + 1,g5,Tr,by go_num,by omega,by rw [HS1.out,HE.out],by rw [HS1.out];exact UC.out,wV.out⟩
     case measure=> simp only [aK];omega
    ·obtain rfl:n=k:=by omega
     rw [HAn.out,HN.out] at mV;rw [HN.out];have R:=zq (Fg.own mV.out);go_wp2;go_ret;exact⟨⟨g,cap,by first | rfl | (rw [HN.out];rfl),R.out⟩,HB.out⟩
end
section
open Go Go.RowKit Go.Lib
theorem qk (Bf:Nat) (a:Option dE) (nf ca:Nat) (fs:List Fr) (p:Pt) (s:Nat) (w:aE) (hE:eZ w) (hf:fs.length=nf) (hs:p.side=s) (BQ:s < nf) (FK:nf≤1000000) (hdir:∀ f∈fs,f.dir=1∨f.dir= -1)
 (h1:p.fr.length≤8000000) (h2:p.en.length≤8000000) (rf:wP w a fs) (hb:bZ w Bf #[aB a nf ca] 22) :
 aQ aC 43 #[p.v,cB (some ⟨Bf,0,none⟩)] w (Rt (aM (oR fs p)) w):=by
 have Hc:aY (∀ W,aJ w.heap.size w W→aQ aC 38 #[aA (bs p.en),aA (bs p.fr)] W (Rt (aF aG (gY p.en p.fr).1) W)):=fun W hW=> by
  have:=rX (bs p.en) (bs p.fr) W (hE.below hW) (by rw [bU];exact h2) (by rw [bU];exact h1);rwa [aX,aX] at this
 have tu:aY (∀ W,aQ aC 45 #[(fs.getD s default).v] W (Rt (aF aG (nD (fs.getD s default))) W)):=fun W=> qL _ W;have hd:=hdir _ (cP (i:=s) (by omega) (default:Fr));have tv:aY (∀ W,aQ aC 44 #[aF aG (nD (fs.getD s default))] W (Rt (aF aG (yW (fs.getD s default))) W)):=fun W=> by
  refine(Og (nD (fs.getD s default)) W).mono ?_;rintro e w' ⟨rfl,rfl⟩;exact⟨by rw [Xz hd],aI _ _⟩
 have hAb:=KJ hdir hs (by omega);have br:aY (wG fs p=(gY p.en p.fr).1 * yW (fs.getD s default)):=by show _=_;unfold wG;rw [hs];rfl
 have HR:aY (oR fs p=decide (wG fs p < 0)):=rfl;have fP:=(aI w.heap.size w).alloc (aD _) (aL #[aF aG p.side,aA (bs p.fr),aA (bs p.en)] 46);have Qb:=zq (bZ.new w #[aF aG p.side,aA (bs p.fr),aA (bs p.en)] 46);have hbk:=hb.below fP hb.lt;obtain⟨fb,fo,rfl,f0,f1,f2,f3,f4⟩:=(rf.below fP).at (i:=s) (by rw [hf];exact BQ) rfl;have mE:=zq fP;have Hbk:=zq hbk;clear hE hf hdir h1 h2 rf hb hd fP hbk;unfold Fr.v Fr.cells at tu;unfold Pt.v Pt.cells;generalize oR fs p=BP at *;generalize wG fs p=AD at *;generalize (gY p.en p.fr).1=CC at *;generalize fs.getD s default=f at *;generalize yW f=FW at *;generalize nD f=DF at *;obtain⟨uM,yX,kX,DX,KI⟩:=f;obtain⟨side,fr,en⟩:=p;simp only [] at *;subst hs;generalize bs DX=FSP at *;generalize bs KI=FST at *;generalize bs fr=FR at *;generalize bs en=EN at *;have hw:IntKind.i64.wrap (CC * FW)=AD:=by rw [← br.out];exact aP _ (by omega)
 obtain⟨WA,ts⟩:∃ WA,w.alloc (aL #[aF aG s,aA FR,aA EN] 46)=WA:=⟨_,rfl⟩;rw [ts] at f0 f1 f2 f3 f4 mE Hbk Qb;obtain⟨e0,e1,e2⟩:=Qb.out.three;have k0:WA.cell? ⟨Bf,0,none⟩=some (aB (some ⟨fb,fo,none⟩) nf ca):=Hbk.out.cell 0;clear hAb Hbk;go_enter func43,ntmps43;go_wp2;try rw [ts]
 have oB:WA.heap.size=w.heap.size + 1:=by rw [← ts];simp
 have Xo:aY (aJ WA.heap.size WA WA.drew):=(aI _ WA).drew;clear ts oB;go_cut [3] (fun v W=> v=aM BP∧aY (aJ w.heap.size w W));case first=>
  go_region_held3 (fun w' => (w'.cell? ⟨w.heap.size,0,none⟩=some (aF aG s)∧w'.cell? ⟨w.heap.size,1,none⟩=some (aA FR)∧w'.cell? ⟨w.heap.size,2,none⟩=some (aA EN))∧w'.cell? ⟨Bf,0,none⟩=some (aB (some ⟨fb,fo,none⟩) nf ca)∧w'.cell? ⟨fb,fo + s * 5,none⟩=some (aM uM)∧w'.cell? ⟨fb,fo + s * 5 + 1,none⟩=some (aF aG yX)∧w'.cell? ⟨fb,fo + s * 5 + 2,none⟩=some (aF aG kX)∧w'.cell? ⟨fb,fo + s * 5 + 3,none⟩=some (aA FSP)∧w'.cell? ⟨fb,fo + s * 5 + 4,none⟩=some (aA FST)) (go_keep)
   (first
    | (go_at_call 38;(with_reducible refine(Hc.out _ (aT mE.out Xo.out)).mono ?_);rintro e w1 ⟨rfl,hb1⟩;have Uz:=zq (aT Xo.out hb1);have:=ck hb1 w.heap.size 0 (aF aG s);have:=ck hb1 w.heap.size 1 (aA FR);have:=ck hb1 w.heap.size 2 (aA EN);have:=ck hb1 Bf 0 (aB (some ⟨fb,fo,none⟩) nf ca);have m0:=bV hb1 (p:=⟨fb,fo + s * 5,none⟩) (v:=aM uM) (by simp [*]);have m1:=bV hb1 (p:=⟨fb,fo + s * 5 + 1,none⟩) (v:=aF aG yX) (by simp [*]);have m2:=bV hb1 (p:=⟨fb,fo + s * 5 + 2,none⟩) (v:=aF aG kX) (by simp [*]);have m3:=bV hb1 (p:=⟨fb,fo + s * 5 + 3,none⟩) (v:=aA FSP) (by simp [*]);have m4:=bV hb1 (p:=⟨fb,fo + s * 5 + 4,none⟩) (v:=aA FST) (by simp [*]))
    | (go_at_call 45;(with_reducible refine(tu.out _).mono ?_);rintro e w2 ⟨rfl,hb2⟩;have hBf:=zq (aT Uz.out hb2);have:=ck hb2 w.heap.size 0 (aF aG s);have:=ck hb2 w.heap.size 1 (aA FR);have:=ck hb2 w.heap.size 2 (aA EN);have:=ck hb2 Bf 0 (aB (some ⟨fb,fo,none⟩) nf ca);have m0:=bV hb2 (p:=⟨fb,fo + s * 5,none⟩) (v:=aM uM) (by simp [*]);have m1:=bV hb2 (p:=⟨fb,fo + s * 5 + 1,none⟩) (v:=aF aG yX) (by simp [*]);have m2:=bV hb2 (p:=⟨fb,fo + s * 5 + 2,none⟩) (v:=aF aG kX) (by simp [*]);have m3:=bV hb2 (p:=⟨fb,fo + s * 5 + 3,none⟩) (v:=aA FSP) (by simp [*]);have m4:=bV hb2 (p:=⟨fb,fo + s * 5 + 4,none⟩) (v:=aA FST) (by simp [*]))
    | (go_at_call 44;(with_reducible refine(tv.out _).mono ?_);rintro e w3 ⟨rfl,hb3⟩;have hBt:=zq (aT hBf.out hb3);have:=ck hb3 w.heap.size 0 (aF aG s);have:=ck hb3 w.heap.size 1 (aA FR);have:=ck hb3 w.heap.size 2 (aA EN);have:=ck hb3 Bf 0 (aB (some ⟨fb,fo,none⟩) nf ca);have m0:=bV hb3 (p:=⟨fb,fo + s * 5,none⟩) (v:=aM uM) (by simp [*]);have m1:=bV hb3 (p:=⟨fb,fo + s * 5 + 1,none⟩) (v:=aF aG yX) (by simp [*]);have m2:=bV hb3 (p:=⟨fb,fo + s * 5 + 2,none⟩) (v:=aF aG kX) (by simp [*]);have m3:=bV hb3 (p:=⟨fb,fo + s * 5 + 3,none⟩) (v:=aA FSP) (by simp [*]);have m4:=bV hb3 (p:=⟨fb,fo + s * 5 + 4,none⟩) (v:=aA FST) (by simp [*])))
  all_goals
   go_wp2;go_meet;case rel=> exact⟨by first | (rw [HR.out];done) | (rw [HR.out];rfl) | (rw [HR.out,hw];done) | (rw [HR.out,hw];rfl),aT mE.out hBt.out⟩
 case rest=>
 obtain⟨rfl,HB⟩:=hcut;go_wp2;go_ret;exact⟨rfl,HB.out⟩
theorem qn(p:Pt)(w:aE)(hE:eZ w)(h1:p.fr.length≤8000000)(h2:p.en.length≤8000000):
 aQ aC 46 #[p.v] w (Rt (aM (uF p)) w):=by
 have H1:aY (∀W,aJ w.heap.size w W→aQ aC 47 #[aA (bs p.fr)] W (Rt (aF aG (dR p.fr)) W)):=fun W hW=>by
  have:=GO (bs p.fr) W (hE.below hW) (by rw[bU];exact h1);rwa[aX]at this
 have H2:aY (∀W,aJ w.heap.size w W→aQ aC 47 #[aA (bs p.en)] W (Rt (aF aG (dR p.en)) W)):=fun W hW=>by
  have:=GO (bs p.en) W (hE.below hW) (by rw[bU];exact h2);rwa[aX]at this
 have HR:aY (uF p=(decide (dR p.fr≠0)||decide (dR p.en≠0))):=rfl;have mE:=zq ((aI w.heap.size w).alloc (aD _) (aL #[aF aG p.side,aA (bs p.fr),aA (bs p.en)] 46));have Qb:=zq (bZ.new w #[aF aG p.side,aA (bs p.fr),aA (bs p.en)] 46);clear hE h1 h2;unfold Pt.v Pt.cells;generalize uF p=BP at *;generalize dR p.fr=N1 at *;generalize dR p.en=N2 at *;obtain⟨side,fr,en⟩:=p;simp only[]at *;generalize bs fr=FR at *;generalize bs en=EN at *;by_cases h1:N1=0
 ·subst h1;go_enter func46,ntmps46;go_wp2_with fail
  refine ka (H1.out _ mE.out) fun W1 hb1=>?_;have fK:=zq (aT mE.out hb1);have Q1:=zq (Qb.out.below hb1 Qb.out.lt);obtain⟨e0,e1,e2⟩:=Q1.out.three;clear hb1;go_wp2_with fail
  refine kb (H2.out _ fK.out) fK.out fun W2 gD=>?_;by_cases h2:N2=0
  ·subst h2;go_wp2;go_ret;exact⟨by rw[HR.out]<;>rfl,gD.out⟩
  ·have h':(N2 !=0)=true:=by rw[bne_iff_ne];exact h2
   have AC:aY (BP=true):=by show _=_;rw[HR.out,decide_eq_true h2];rfl
   clear h2;go_wp2;go_ret;exact⟨by rw[AC.out]<;>rfl,gD.out⟩
 ·have h':(N1 !=0)=true:=by rw[bne_iff_ne];exact h1
  have AC:aY (BP=true):=by show _=_;rw[HR.out,decide_eq_true h1,Bool.true_or]
  clear h1;go_enter func46,ntmps46;go_wp2_with fail
  refine kb (H1.out _ mE.out) mE.out fun W1 fK=>?_;go_wp2;go_ret;exact⟨by rw[AC.out]<;>rfl,fK.out⟩
end
section
open Go Go.RowKit Go.Shelf Go.Lib
section
attribute[local go_sem] Oper.semAt_some
theorem qp(a b:Rat):(0<mJ a b)↔(mJ b a<0):=by
 unfold mJ;by_cases h:a<b
 ·have k:¬b<a:=by grind
  simp[h,k]
 ·by_cases k:b<a<;>simp[h,k]
theorem TF{x y:List UInt8}(hx:dR x=0)(hy:dR y=0):(0<(gY x y).1)↔((gY y x).1<0):=by
 obtain⟨-,h1,e1⟩:=Aq hx;obtain⟨-,h2,e2⟩:=Aq hy;have a:=CQ h1 h2 (by decide);have b:=CQ h2 h1 (by decide);rw[e1,e2]at a b;rw[a,b];exact qp _ _
def Av(hs:Nat)(a:Option dE)(nf ca:Nat)(X Y:ByteArray)(W:aE):Prop:=
 bZ W hs #[aB a nf ca] 22∧bZ W (hs+1) #[aA X] 24∧bZ W (hs+1+1) #[aA Y] 24∧bZ W (hs+1+1+1) #[aB none 0 0] 23∧bZ W (hs+1+1+1+1) #[aF aG 0] 29
theorem Av.below{hs:Nat}{a:Option dE}{nf ca:Nat}{X Y:ByteArray}{W W':aE}(h:Av hs a nf ca X Y W)(hb:aJ W.heap.size W W'):Av hs a nf ca X Y W':=
 ⟨h.1.below hb h.1.lt,h.2.1.below hb h.2.1.lt,h.2.2.1.below hb h.2.2.1.lt,h.2.2.2.1.below hb h.2.2.2.1.lt,h.2.2.2.2.below hb h.2.2.2.2.lt⟩
theorem Av.alloc{hs:Nat}{a:Option dE}{nf ca:Nat}{X Y:ByteArray}{W:aE}(h:Av hs a nf ca X Y W)(o:Obj):Av hs a nf ca X Y (W.alloc o):=h.below ((aI _ W).alloc (aD _) o)
theorem Av.new(a:Option dE)(nf ca:Nat)(X Y:ByteArray)(w:aE):∃W,((((w.alloc (aL #[aB a nf ca] 22)).alloc (aL #[aA X] 24)).alloc (aL #[aA Y] 24)).alloc (aL #[aB none 0 0] 23)).alloc (aL #[aF aG 0] 29)=W∧
 Av w.heap.size a nf ca X Y W∧aJ w.heap.size w W:=by
 refine⟨_,rfl,⟨((((bZ.new w _ _).alloc _).alloc _).alloc _).alloc _,?_,?_,?_,?_⟩,(((((aI _ w).alloc (aD _) _).alloc (by simp) _).alloc (by simp;omega) _).alloc (by simp;omega) _).alloc (by simp;omega) _⟩
 ·have:=(((bZ.new (w.alloc (aL #[aB a nf ca] 22)) #[aA X] 24).alloc (aL #[aA Y] 24)).alloc (aL #[aB none 0 0] 23)).alloc (aL #[aF aG 0] 29);simpa[aS]using this
 ·have:=((bZ.new ((w.alloc (aL #[aB a nf ca] 22)).alloc (aL #[aA X] 24)) #[aA Y] 24).alloc (aL #[aB none 0 0] 23)).alloc (aL #[aF aG 0] 29);simpa[aS]using this
 ·have:=(bZ.new (((w.alloc (aL #[aB a nf ca] 22)).alloc (aL #[aA X] 24)).alloc (aL #[aA Y] 24)) #[aB none 0 0] 23).alloc (aL #[aF aG 0] 29);simpa[aS]using this
 ·have:=bZ.new ((((w.alloc (aL #[aB a nf ca] 22)).alloc (aL #[aA X] 24)).alloc (aL #[aA Y] 24)).alloc (aL #[aB none 0 0] 23)) #[aF aG 0] 29;simpa[aS]using this
theorem Z6(a:Option dE)(nf ca:Nat)(w:aE):
 aQ aC 39 #[aB a nf ca] w fun e w'=>e=aO (.func (.func 95) #[] #[cB (some ⟨w.heap.size,0,none⟩)])∧w'=w.alloc (aL #[aB a nf ca] 22):=by
 go_enter func39,ntmps39;go_wp2;go_ret;exact⟨rfl,rfl⟩
end
end
end Go.Proofs.YtcimoodjlopdaaaGreatDoor
