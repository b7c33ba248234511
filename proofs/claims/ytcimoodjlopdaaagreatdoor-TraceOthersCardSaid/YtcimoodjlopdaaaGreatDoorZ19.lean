import Derived.OrdersHeld
import Derived.Deep.AppendLies
import Derived.Below
import Derived.Lib.Hide
import Derived.BigQuiet
import Derived.Deep.QuietTactic
import Derived.Shelf.SlicesE.Compact
import Derived.Test.YtcimoodjlopdaaaGreatDoorZ0
import Derived.Test.YtcimoodjlopdaaaGreatDoorZ6
import Derived.Test.YtcimoodjlopdaaaGreatDoorZ7
import Derived.Test.YtcimoodjlopdaaaGreatDoorZ16
import Derived.Test.YtcimoodjlopdaaaGreatDoorZ17
import Derived.Test.YtcimoodjlopdaaaGreatDoorZ18
namespace Go.Proofs.YtcimoodjlopdaaaGreatDoor
set_option maxRecDepth 100000
set_option maxHeartbeats 8000000
set_option linter.all false
open Go.Proofs.Tryz
open _root_.Array renaming replicate->pG
open Bool renaming eq_iff_iff->EK
open Classical renaming byContradiction->fZ
open Go renaming World->aE,Calls->aQ,Value->bB,Oper->A8,Act->EI,heap_setCell_other->Dn,TypeId->Ii,Program->X6
open Go.ByteArray renaming toList_eq->cI
open Go.Code renaming region->OK
open Go.Ending renaming returned->aO
open Go.Instr renaming index->nA
open Go.IntKind renaming i64->aG
open Go.IntWalk renaming i64_in->aP
open Go.Lib renaming compactUpTo->B8
open Go.Obj renaming cells->aL,map->sj
open Go.Proofs.SlLaysE renaming n43->vl
open Go.Proofs.Tryz renaming prog->aC,underlying47->Kx
open Go.Region renaming ready->jQ,wanted->Ay,binds->B4,Mode->Dq
open Go.RowKit renaming Below->aJ,intOf->aK,Hid->aY
open Go.RowKit.Below renaming refl->aI
open Go.Sem renaming run->Az
open Go.Shelf renaming Ren->lI
open Go.Value renaming string->aA,slice->aB,int->aF,bool->aM,tuple->bO,pointer->cB,agg->dM,ownBlock->zQ
open Go.World renaming size_setCell->mO,ownsRow->B3
open Go.World.ownsRow renaming frozenAt->eO,cellAt->gJ
open List renaming getD_eq_getElem?_getD->aN,replicate->bY,length_map->cG,take_of_length_le->dH,take_succ_eq_append_getElem->dQ,length_set->fS,getElem_of_mem->fV,getElem_set_self->Do,getElem_set_ne->FA,getElem_mem->Ks,replicate_succ'->WC,getElem_set->sh
open Nat renaming le_refl->aD,lt_of_lt_of_le->bQ,zero_le->bR,le_trans->cC
open Trans renaming trans->cL
section
open Go Go.RowKit Go.Lib
theorem IT (a b:Option Addr) (nf n ca cb:Nat) (fs:List Fr) (ls:List Lp) (z:List UInt8) (w:aE) (hE:eZ w)
 (hf:fs.length=nf) (hl:ls.length=n) (FK:nf≤1000000) (hn:n≤1000000) (pK:∀ f∈fs,f.sp.length≤30∧f.st.length≤30) (sW:Fk ls) (hz:z.length≤8000000)
 (rf:wP w a fs) (rl:zP w b ls) :
 aQ aC 7 #[aB a nf ca,aB b n cb,aA (bs z)] w (Mi w (gT fs ls z) (fR fs ls z)):=by
 have fP:=(aI w.heap.size w).alloc (aD _) (aL #[aA (bs z)] 24);have rz:xO (w.alloc (aL #[aA (bs z)] 24)) (some ⟨w.heap.size,0,none⟩) [z]:=by
  intro i hi;have hi:i < 1:=hi;obtain rfl:i=0:=by omega
  exact⟨_,_,rfl,(bZ.new w #[aA (bs z)] 24).cell 0⟩
 have HC:=zq (uC a b (some ⟨w.heap.size,0,none⟩) nf n 1 ca cb 1 fs ls [z] _ (hE.below fP) hf hl rfl FK hn (by decide) pK (fun x hx=> by rw [List.mem_singleton] at hx;subst hx;exact hz) (fun l h=> (sW l h).1) (rf.below fP) (rl.below fP) rz);have UA:fH fs [z] ls=0→(∀ f∈fs,f.Ok)∧dR z=0:=fun h=> by
  obtain⟨h1,h2, -⟩:=DZ h;exact⟨fun f hm=> ⟨h1 f hm,(pK f hm).1,(pK f hm).2⟩,h2 z (List.mem_singleton.2 rfl)⟩
 have uP:aY (fH fs [z] ls=0→∀ b2 c2 W,aJ w.heap.size w W→xO W b2 (iP fs z)→aQ aC 24 #[dM #[aB a nf ca,aB b2 nf c2],aB b n cb,aM false] W (Rt (aM (mL fs (iP fs z) ls false)) W)):=fun h b2 c2 W hW ha=> by
  obtain⟨h1,h2⟩:=UA h;exact VA a b2 b nf n ca c2 cb fs (iP fs z) ls false W (hE.below hW) hf (by rw [rR];exact hf) hl hn (fun f hm=> (h1 f hm).dir) sW (rf.below hW) ha (rl.below hW)
 have VD:aY (mL fs (iP fs z) ls false=true→∀ i,i < n→∀ j,j < (ls.getD i default).ps.length→∀ b2 c2 W,aJ w.heap.size w W→xO W b2 (iP fs z)→
  aQ aC 25 #[dM #[aB a nf ca,aB b2 nf c2],((ls.getD i default).ps.getD j default).v] W (Rt ((iH fs (iP fs z) ((ls.getD i default).ps.getD j default)).v) W)):=fun h i hi j hj b2 c2 W hW ha=> by
  obtain⟨s,h1,h2⟩:=D3 h (by rw [hl];exact hi) hj;exact IQ a b2 nf ca c2 fs (iP fs z) _ s W h1 (by omega) hf (by rw [rR];exact hf) (rf.below hW) ha
 have R1:aY (fH fs [z] ls≠0→fR fs ls z=fH fs [z] ls):=fun h=> by unfold fR;rw [ip h]
 have R2:aY (fH fs [z] ls=0→mL fs (iP fs z) ls false=false→fR fs ls z=1):=fun h h2=> by unfold fR;rw [iN (by rw [h];decide),iN (by rw [h2];decide)]
 have R3:aY (fH fs [z] ls=0→mL fs (iP fs z) ls false=true→fR fs ls z=0∧gT fs ls z=jD fs (iP fs z) ls):=fun h h2=> by
  have:fR fs ls z=0:=by unfold fR;rw [iN (by rw [h];decide),ip h2]
  exact⟨this,by unfold gT;rw [ip this]⟩
 have R4:aY (∀ c,fR fs ls z=c→c≠0→gT fs ls z= []):=fun c h h2=> by unfold gT;rw [h,iN h2]
 have JK:aY (∀ c:Int,fR fs ls z=c→c≠0→∀ W,aJ w.heap.size w W→Mi w (gT fs ls z) (fR fs ls z) (aO (bO #[aB none 0 0,aF aG c])) W):=fun c h h2 W hB=>
  ⟨⟨_,0, [],by rw [R4.out c h h2,h];rfl,by rw [R4.out c h h2];rfl,fun i hi=> absurd hi (by simp)⟩,hB⟩
 have SS:aY (∀ i,i < n→(ls.getD i default).ps.length≤1000000):=fun i hi=> (sW _ (cP (by rw [hl];exact hi) default)).1;have HZ0:aY (([z]:List (List UInt8)).getD 0 []=z):=rfl;have Hl:=zq hl;have Rl:=zq rl;have mE:=zq fP;clear hE hf hl pK sW hz rf rl rz fP UA R4;generalize hPV:gT fs ls z=PV at *;generalize fR fs ls z=PE at *;have hL' :iP fs (([z]:List (List UInt8)).getD 0 [])=iP fs z:=rfl;generalize hL:iP fs z=L at *;generalize bs z=Z at *;clear hPV hL;by_cases h0:fH fs [z] ls=0
 ·unfold PK at HC;rw [h0,hL'] at HC;have uP:=zq (uP.out h0);have R2:=zq (R2.out h0);have R3:=zq (R3.out h0);clear h0 R1;generalize hAL:mL fs L ls false=AL at *;have HAL:=zq hAL;clear hAL;go_enter func7,ntmps7;go_wp2_with fail
  refine HC.out.mono ?_;rintro e W1 ⟨⟨a1,n1,c1,a2,n2,c2,rfl,hk⟩,hb1⟩;obtain⟨h1,h2,h3,hk⟩:=hk (by first | rfl | trivial);obtain⟨h4,ha⟩:=hk (by first | exact Nat.zero_lt_one | trivial | simp);obtain rfl:=h1.symm;obtain rfl:=h2.symm;obtain rfl:=h3.symm;obtain rfl:=h4.symm;have fK:=zq (aT mE.out hb1);have HBA:=zq (fK.out.alloc fK.out.size (aL #[aB a nf ca,aB a2 nf c2] 58));have QT:=zq (bZ.new W1 #[aB a nf ca,aB a2 nf c2] 58);have Ha:=zq (ha.below ((aI W1.heap.size W1).alloc (aD _) (aL #[aB a nf ca,aB a2 nf c2] 58)));clear ha hb1 HC mE;go_wp2_with fail
  refine(uP.out _ _ _ HBA.out Ha.out).mono ?_;rintro e W3 ⟨rfl,hb2⟩;have HB3:=zq (aT HBA.out hb2);have QT:=zq (QT.out.below hb2 QT.out.lt);have Ha:=zq (Ha.out.below hb2);obtain⟨G,hG⟩:∃ G,W1.heap.size=G:=⟨_,rfl⟩;rw [hG] at QT ⊢;clear hb2 uP HBA hG fK;cases AL with
  | false=>
   have e1:=zq (R2.out rfl);go_wp2;go_ret2;exact JK.out 1 e1.out (by decide) _ HB3.out
  | true=>
   obtain⟨e1,e2⟩:=R3.out rfl;have lw:=zq (VD.out rfl);have E1:=zq e1;have E2:=zq e2;clear e1 e2 R2 R3 JK VD;have O0:aY (uV W3.heap.size W3 (aB none 0 0) []):=⟨⟨by simp, .inl ⟨rfl,rfl⟩⟩,fun l hl=> absurd hl (by simp)⟩;go_wp2;go_loopw [10,33] (fun o i wr=> ∃ (ad:Option Addr) (co:Nat) (iJ:List Lo),i=aF aG (iJ.length:Nat)∧iJ.length≤n∧o=aB ad iJ.length co∧aY (iJ.map Lo.qs=(jD fs L ls).take iJ.length)∧aY (uV W3.heap.size wr (aB ad iJ.length co) iJ)∧aY (aJ W3.heap.size W3 wr)) (fun _ i _=> n - (aK i).toNat);case atStart=> exact⟨_,0, [],rfl,bR _,rfl,rfl,O0.out,aI _ _⟩
   case round=>
    clear O0;obtain⟨ad,co,iJ,rfl,hk,rfl,Hq,HO,HB⟩:=hrel;have rO:=zq (aT HB3.out HB.out);obtain⟨k,wO⟩:∃ k,iJ.length=k:=⟨_,rfl⟩;rw [wO] at hk Hq HO ⊢;by_cases hlt:k < n
    ·obtain⟨lb,lo,rfl,c0,rp⟩:=(Rl.out.below rO.out).at (i:=k) (by rw [Hl.out];exact hlt) rfl;have Rp:=zq rp;have Cm:=zq (lw.out k hlt);have Hpt:aY ((jD fs L ls).take (k + 1)=(jD fs L ls).take k ++ [(ls.getD k default).ps.map fun p=> iH fs L p]):=by
      show _=_;unfold jD;rw [dQ (by rw [cG,Hl.out];exact hlt)];simp [aN,Hl.out,hlt]
     have SW:=zq wO;have zW:=SS.out k hlt;generalize ls.getD k default=l at *;generalize l.a=la at *;generalize l.cap=lcp at *;obtain⟨qs,bw⟩:∃ qs,l.ps.map (fun p=> iH fs L p)=qs:=⟨_,rfl⟩;rw [bw] at Hpt;have Hqs:aY (∀ j,j < l.ps.length→qs.take (j + 1)=qs.take j ++ [iH fs L (l.ps.getD j default)]):=fun j hj=> by
      rw [← bw,dQ (by rw [cG];exact hj)];simp [aN,hj]
     have cd:aY (qs.length=l.ps.length):=by show _=_;rw [← bw,cG]
     clear bw rp wO;rename aE=> wo;have QTo:=zq (QT.out.below HB.out QT.out.lt);obtain⟨m,hm⟩:∃ m,l.ps.length=m:=⟨_,rfl⟩;rw [hm] at Cm Hqs cd c0 zW;have Hm:=zq hm;clear hm;go_wp2;go_loopw [13,39] (fun o i wr=> ∃ (j:Nat) (al:Option Addr) (cl:Nat),i=aF aG j∧j≤m∧o=aB al j cl∧aY (wr.ownsRow wo.heap.size 56 2 (aB al j cl) j (mX (qs.take j)))∧aY (aJ wo.heap.size wo wr)) (fun _ i _=> m - (aK i).toNat);case atStart=> exact⟨0,none,0,rfl,bR _,rfl,⟨by simp [mX], .inl ⟨rfl,rfl⟩⟩,aI _ _⟩
     case round=>
      obtain⟨j,al,cl,rfl,hj,rfl,mV,yZ⟩:=hrel;obtain⟨t0,t1, -, -,tl⟩:=(QTo.out.below yZ.out QTo.out.lt).two;by_cases hjm:j < m
      ·obtain⟨pb,po,rfl,d0,d1,d2⟩:=(Rp.out.below yZ.out).at (i:=j) (by rw [Hm.out];exact hjm) rfl;have ma:=zq (fun (W:aE) (h:aJ wr.heap.size wr W)=> Cm.out j hjm a2 c2 W (aT (aT rO.out yZ.out) h) (((Ha.out.below HB.out).below yZ.out).below h));have Hqj:=zq (Hqs.out j hjm);unfold Pt.v Pt.cells at ma;generalize l.ps.getD j default=p at *;generalize iH fs L p=C at *;unfold Po.v Po.cells at ma;obtain⟨ps,pf,pe⟩:=p;obtain⟨cx,cy⟩:=C;simp only [] at *;generalize bs pf=PF at *;generalize bs pe=PEn at *;obtain⟨CX,hCX⟩:∃ s,bs cx=s:=⟨_,rfl⟩;obtain⟨CY,hCY⟩:∃ s,bs cy=s:=⟨_,rfl⟩;rw [hCX,hCY] at ma;have HCX:=zq hCX;have HCY:=zq hCY;clear hCX hCY;have ye:=(aI wr.heap.size wr).alloc (aD _) (aL #[aF aG ps,aA PF,aA PEn] 46);have Kk:=zq ye;clear ye;go_wp2_with fail
       refine(ma.out _ Kk.out).mono ?_;rintro e W5 ⟨rfl,hb5⟩;have hb6:=aT Kk.out hb5;have wV:=zq (aT yZ.out hb6);have qT:=cT mV.out hb6;clear hb5 hb6 ma mV yZ;go_wp2_with (at_builtin;refine lu rfl _ _ rfl wo.heap.size (aB al j cl) j _ rfl qT _ _ rfl (by omega) wV.out.size ?_;intro g6 SX w6 wY hg6 Ck)
       have pF:=zq (dB wV.out Ck qT (aD _) wV.out.size);have e6:mX (qs.take j) ++ [aA CX,aA CY]=mX (qs.take (j + 1)):=by
        rw [Hqj.out,JM,HCX.out,HCY.out]
       rw [e6] at wY;have SY:=zq wY;clear e6 qT wY Ck wV;go_wp2;go_roundw;case rel=> exact⟨j + 1,_,SX,by go_num,by omega,rfl,SY.out,pF.out⟩
       case measure=> simp only [aK];omega
      ·obtain rfl:m=j:=by omega
       have hqt:qs.take m=qs:=dH (by rw [cd.out];exact aD _);rw [hqt] at mV;have HBo:=zq (aT HB.out yZ.out);have Bq:=zq (HO.out.below yZ.out);have hl2:=gN mV.out HB.out.size;have QR:=zq hl2;clear hqt hl2 mV yZ HO;have cg:aY ((iJ ++ [(⟨al,cl,qs⟩:Lo)]).map Lo.qs=(jD fs L ls).take (k + 1)):=by
        show _=_;rw [List.map_append,Hq.out,Hpt.out];rfl
       have uE:=Bq.out.1;rw [SW.out] at uE;have JN:(iJ ++ [(⟨al,cl,qs⟩:Lo)]).length=k + 1:=by rw [List.length_append,SW.out];rfl
       have wH:=zq JN;clear JN;go_wp2_with (at_builtin;refine lv rfl _ _ rfl W3.heap.size (aB ad k co) k _ rfl uE al m cl rfl (by omega) HBo.out.size ?_;intro g8 Fl w8 De hg8 Fm)
       have VE:=zq (dB HBo.out Fm uE (aD _) HBo.out.size);have HO8:aY (uV W3.heap.size w8 (aB (some ⟨g8,0,none⟩) (k + 1) Fl) (iJ ++ [⟨al,cl,qs⟩])):=by
        have:=uV.grow (l:=⟨al,cl,qs⟩) (g:=g8) (cap:=Fl) Bq.out (by
         have:=QR.out;show B3 _ _ _ _ (aB al qs.length cl) qs.length (mX qs);rw [cd.out];exact this) Fm (by
         rw [SW.out];show B3 _ _ _ _ _ _ (_ ++ [aB al qs.length cl]);rw [cd.out];exact De)
        rwa [SW.out] at this
       clear uE De Fm Bq QR;go_wp2;go_roundw;case rel=> exact⟨_,Fl,iJ ++ [⟨al,cl,qs⟩],by rw [wH.out];go_num,by rw [wH.out];omega,by rw [wH.out],by rw [wH.out];exact cg.out,by rw [wH.out];exact HO8.out,VE.out⟩
       case measure=> simp only [aK];omega
    ·obtain rfl:n=k:=by omega
     have UX:(jD fs L ls).take n=jD fs L ls:=dH (by unfold jD;rw [cG,Hl.out];exact aD _);rw [UX] at Hq;have R:aY (Mi w PV PE (aO (bO #[aB ad n co,aF aG 0])) wr):=by
      have kN:PV.length=n:=by rw [E2.out];unfold jD;rw [cG,Hl.out]
      refine⟨⟨ad,co,iJ,by rw [kN,E1.out],by rw [E2.out];exact Hq.out,uV.reads HO.out⟩,rO.out⟩
     clear UX wO;go_wp2;go_ret2;exact R.out
 ·have e1:=zq (R1.out h0);have e2:=zq (JK.out _ (R1.out h0) h0);have h' :(fH fs [z] ls !=0)=true:=by rw [bne_iff_ne];exact h0
  unfold PK at HC;generalize fH fs [z] ls=c at *;clear h0 R1 R2 R3 uP VD JK;go_enter func7,ntmps7;go_wp2_with fail
  refine HC.out.mono ?_;rintro e W1 ⟨⟨a1,n1,c1,a2,n2,c2,rfl, -⟩,hb1⟩;have fK:=zq (aT mE.out hb1);go_wp2;go_ret2;exact e2.out _ (fK.out.alloc fK.out.size _)
theorem VF(b off cap:Nat)(s t:List UInt8)(w:aE)(hE:eZ w)(hs:s.length≤8000000)(ht:t.length≤8000000)(h0:(gY s t).1=0)(hc:w.cell? ⟨b,off,none⟩=some (aA (bs s))):
 aQ aC 230 #[aB (some ⟨b,off,none⟩) 1 cap,aA (bs t),.func (.func 38) #[] #[]] w (Rt (bO #[aF aG 0,aM true]) w):=by
 have HC:aY (∀W,aJ w.heap.size w W→aQ aC 38 #[aA (bs s),aA (bs t)] W (Rt (aF aG 0) W)):=fun W hW=>by
  have:=rX (bs s) (bs t) W (hE.below hW) (by rw[bU];exact hs) (by rw[bU];exact ht);rw[aX,aX,h0]at this;exact this
 have Hc:aY (∀W,aJ w.heap.size w W→W.cell? ⟨b,off,none⟩=some (aA (bs s))):=fun W hW=>(hW.cell (p:=⟨b,off,none⟩) (World.block_lt_of_cell? w _ hc)).trans hc;clear hE hs ht h0 hc;generalize bs s=S at *;generalize bs t=T at *;go_enter func230,ntmps230;go_wp2;go_loopw[9,10] (fun i j wr=>i=aF aG 0∧(j=aF aG 0∨j=aF aG 1)∧aY (aJ w.heap.size w wr)) (fun _ j _=>(aK j).toNat);case atStart=>exact⟨rfl,.inr rfl,aI _ _⟩
 case round=>
  obtain⟨rfl,rfl|rfl,HB⟩:=hrel
  ·have c0:=Hc.out _ HB.out;go_wp2_with fail
   refine(HC.out _ HB.out).mono ?_;rintro e W1⟨rfl,hb1⟩;have fK:=zq (aT HB.out hb1);clear hb1;go_wp2;go_ret2;exact⟨rfl,fK.out⟩
  ·have c0:=Hc.out _ HB.out;go_wp2_with fail
   refine(HC.out _ HB.out).mono ?_;rintro e W1⟨rfl,hb1⟩;have fK:=zq (aT HB.out hb1);clear hb1;go_wp2;go_roundw;case rel=>exact⟨rfl,.inl (by go_num),fK.out⟩
   case measure=>simp[aK]
theorem Ol(b off cap:Nat)(s t:List UInt8)(w:aE)(hE:eZ w)(hs:s.length≤8000000)(ht:t.length≤8000000)(h0:(gY s t).1=0)(hc:w.cell? ⟨b,off,none⟩=some (aA (bs s))):
 aQ aC 167 #[aB (some ⟨b,off,none⟩) 1 cap,aA (bs t)] w (Rt (aF aG 0) w):=by
 have H:=zq (VF b off cap s t w hE hs ht h0 hc);clear hE hs ht h0 hc;generalize bs s=S at *;generalize bs t=T at *;go_enter func167,ntmps167;go_wp2_with fail
 refine H.out.mono ?_;rintro e W1⟨rfl,hb1⟩;have fK:=zq hb1;clear hb1;go_wp2;go_ret;exact⟨rfl,fK.out⟩
end
section
open Go Go.RowKit
section
variable{P:X6}{fA:Array A8}{Q:Exit→EI→aE→Prop}{md:Dq}
def Df(md:Dq)(fA:Array A8)(L:Array Bool):Prop:=
 ∀j o,fA[j]? =some o→L.getD j false=true→∀e∈o.after,B4 md e=true→L.getD e.on false=true
theorem Df.set{L:Array Bool}{j:Nat}(h:Df md fA L)(hj:j∈jQ md fA L):Df md fA (L.setIfInBounds j true):=by
 intro k o hk hL e he hb;obtain⟨-,oj,hoj,hall⟩:=mem_ready.1 hj;by_cases hjk:j=k
 ·subst hjk;rw[hoj]at hk;cases hk;exact getD_set_true (hall e he hb)
 ·rw[getD_set_ne false hjk]at hL;exact getD_set_true (h k o hk hL e he hb)
theorem Df.none(n:Nat):Df md fA (pG n false):=by
 intro j o _ h;exfalso;by_cases hj:j<n<;>simp[hj]at h
theorem Mk{L:Array Bool}{i:Nat}(h:L.getD i true=false):L.getD i false=false:=by
 by_cases hlt:i<L.size
 ·simp[hlt]at h⊢;exact h
 ·simp[Array.getElem?_eq_none (Nat.le_of_not_lt hlt)]at h
def waits(md:Dq)(fA:Array A8)(j k:Nat):Bool:=match fA[j]? with
 |some o=>o.after.any (fun e=>B4 md e&&e.on==k)
 |none=>false
theorem Df.up{L:Array Bool}{j k:Nat}(h:Df md fA L)(hw:waits md fA j k=true)(hk:L.getD k false=false):L.getD j false=false:=by
 unfold waits at hw;cases ho:fA[j]? with
 |none=>rw[ho]at hw;cases hw
 |some o=>
  rw[ho]at hw;simp only[Array.any_eq_true']at hw;obtain⟨e,he,hb⟩:=hw;rw[Bool.and_eq_true,beq_iff_eq]at hb;cases hj:L.getD j false with
  |false=>rfl
  |true=>
   have:=h j o ho hj e he hb.1;rw[hb.2,hk]at this;cases this
def rZ(P:X6)(md:Dq)(fA:Array A8)(Q:Exit→EI→aE→Prop)(st:Array Bool→Bool)(S:aE→Prop):Nat→Array Bool→EI→aE→Prop
 |0,L,a,w=>jQ md fA L=[]∧Q .normal a w
 |fuel+1,L,a,w=>(jQ md fA L=[]→Q .normal a w)∧
  ∀i∈jQ md fA L,wpOp P fA Q i (fun a' w'=>(st (L.setIfInBounds i true)=false→S w')∧rZ P md fA Q st S fuel (L.setIfInBounds i true) a' w') a w
variable{st:Array Bool→Bool}{S:aE→Prop}
theorem Ml:∀(fuel:Nat)(L:Array Bool)(a:EI)(w:aE),rZ P md fA Q st S fuel L a w→wpAny P md fA Q fuel L a w
 |0,_,_,_,h=>h
 |fuel+1,_,_,_,h=>⟨h.1,fun i hi=>wpOp_mono (fun a' w' h'=>Ml fuel _ a' w' h'.2) (h.2 i hi)⟩
theorem PO{i:Nat}{oi:A8}{v:bB}(hi:fA[i]? =some oi)(hsel:∀(j:Nat)(o:A8)cs b,fA[j]? =some o→o.op≠.select cs b)
 (hQ:∀c a w,Q (.panic c) (a.put oi.dst v) w→Q (.panic c) a w){S':aE→Prop}(hok:∀L w,Df md fA L→L.getD i false=false→(st L=false→S w)→S' w)(mb:∀L,st (L.setIfInBounds i true)=st L):
 ∀(fuel:Nat)(L:Array Bool)(a:EI)(w:aE),Df md fA L→
  (∀j oj,fA[j]? =some oj→j≠i→L.getD j true=false→(∀e∈oj.after,B4 md e=true→e.on≠i)→oi.apart fA oj=true)→
  i∈jQ md fA L→YieldsIf P fA S' oi v a→(st L=false→S w)→
  rZ P md fA Q st S fuel (L.setIfInBounds i true) (a.put oi.dst v) w→rZ P md fA Q st S (fuel+1) L a w:=by
 intro fuel;induction fuel with
 |zero=>
  intro L a w hL0 _ hr hy hS H;refine⟨fun h=>(by rw[h]at hr;cases hr),fun j hj=>?_⟩;by_cases hji:j=i
  ·subst hji;exact hy.wpOp hi (hok L w hL0 (Mk (mem_ready.1 hr).1) hS) ⟨fun h=>hS (by rw[←mb];exact h),H⟩
  ·have:=ready_mono hj hji;rw[H.1]at this;cases this
 |succ fuel ih=>
  intro L a w hL hfree hr hy hS H;refine⟨fun h=>(by rw[h]at hr;cases hr),fun j hj=>?_⟩;by_cases hji:j=i
  ·subst hji;exact hy.wpOp hi (hok L w hL (Mk (mem_ready.1 hr).1) hS) ⟨fun h=>hS (by rw[←mb];exact h),H⟩
  ·have h1:=H.2 j (ready_mono hj hji);obtain⟨hjun,oj,hoj,hall⟩:=mem_ready.1 hj;have hiun:=(mem_ready.1 hr).1;have hiun':L.getD i false=false:=Mk hiun;have mc:∀e∈oj.after,B4 md e=true→e.on≠i:=fun e he hb heq=>by
    have:=hall e he hb;rw[heq,hiun']at this;cases this
   have h2:=wpOp_putIf hoj (hfree j oj hoj hji hjun mc) (fun cs b=>hsel i oi cs b hi) (fun cs b=>hsel j oj cs b hoj) hQ hy h1;have hL':=hL.set hj;have hiun2:(L.setIfInBounds j true).getD i false=false:=by rw[getD_set_ne false hji];exact hiun'
   have hfree':∀k ok,fA[k]? =some ok→k≠i→(L.setIfInBounds j true).getD k true=false→
    (∀e∈ok.after,B4 md e=true→e.on≠i)→oi.apart fA ok=true:=fun k ok hk hki hun YF=>by
    refine hfree k ok hk hki ?_ YF;by_cases hjk:j=k
    ·subst hjk;exact hjun
    ·rw[getD_set_ne true hjk]at hun;exact hun
   refine wpOp_mono (fun a' w' h3=>?_) h2;have hc:(L.setIfInBounds i true).setIfInBounds j true=(L.setIfInBounds j true).setIfInBounds i true:=Array.setIfInBounds_comm _ _ (Ne.symm hji);have hS':st (L.setIfInBounds j true)=false→S w':=fun h=>h3.2.1 (by rw[hc,mb];exact h);refine⟨hS',ih _ a' w' hL' hfree' (ready_mono hr (Ne.symm hji)) h3.1 hS' ?_⟩;rw[←hc];exact h3.2.2
theorem fL{i:Nat}{oi:A8}{v:bB}{fuel:Nat}{L:Array Bool}{a:EI}{w:aE}(hi:fA[i]? =some oi)
 (hs:Region.noSelect fA=true)(hf:Region.free md fA L i=true)(hr:(jQ md fA L).contains i=true)
 (hQ:∀c a w,Q (.panic c) (a.put oi.dst v) w→Q (.panic c) a w){S':aE→Prop}(hok:∀L w,Df md fA L→L.getD i false=false→(st L=false→S w)→S' w)(mb:∀L,st (L.setIfInBounds i true)=st L)
 (hL:Df md fA L)(hy:YieldsIf P fA S' oi v a)(hS:st L=false→S w)
 (h:Df md fA (L.setIfInBounds i true)→rZ P md fA Q st S fuel (L.setIfInBounds i true) (a.put oi.dst v) w):rZ P md fA Q st S (fuel+1) L a w:=
 PO hi (Region.noSelect_spec hs) hQ hok mb fuel L a w hL (Region.free_spec hi hf) (by simpa using hr) hy hS (h (hL.set (by simpa using hr)))
theorem VG{rs:List Nat}{fuel:Nat}{L:Array Bool}{a:EI}{w:aE}(hr:jQ md fA L=rs)(lE:rs≠[])
 (h:∀i∈rs,wpOp P fA Q i (fun a' w'=>(st (L.setIfInBounds i true)=false→S w')∧rZ P md fA Q st S fuel (L.setIfInBounds i true) a' w') a w):rZ P md fA Q st S (fuel+1) L a w:=
 ⟨fun h0=>absurd (hr▸h0) lE,hr▸h⟩
theorem SZ{L:Array Bool}{a:EI}{w:aE}(hr:jQ md fA L=[])(h:Q .normal a w):∀fuel,rZ P md fA Q st S fuel L a w
 |0=>⟨hr,h⟩
 |_+1=>⟨fun _=>h,by rw[hr];simp⟩
def sX(P:X6)(md:Dq)(fA:Array A8)(Q:Exit→EI→aE→Prop)(st:Array Bool→Bool)(S:aE→Prop)(fuel:Nat)(L:Array Bool)(a:EI)(w:aE)(rs:List Nat):Prop:=
 ∀i∈rs,Df md fA (L.setIfInBounds i true)→wpOp P fA Q i (fun a' w'=>(st (L.setIfInBounds i true)=false→S w')∧rZ P md fA Q st S fuel (L.setIfInBounds i true) a' w') a w
theorem sX.nil{fuel:Nat}{L:Array Bool}{a:EI}{w:aE}:sX P md fA Q st S fuel L a w []:=fun _ h=>by cases h
theorem sX.cons{fuel:Nat}{L:Array Bool}{a:EI}{w:aE}{i:Nat}{o:A8}{rs:List Nat}(ho:fA[i]? =some o)
 (h:Df md fA (L.setIfInBounds i true)→∀K':EI→aE→Prop,aY (∀a w,(st (L.setIfInBounds i true)=false→S w)→rZ P md fA Q st S fuel (L.setIfInBounds i true) a w→K' a w)→if Ay o (yielded fA a.tmps)=true then Oper.wp P o a w K' Q else K' (a.put o.dst undef) w)
 (hs:sX P md fA Q st S fuel L a w rs):sX P md fA Q st S fuel L a w (i::rs):=fun j hj hL=>by
 rcases List.mem_cons.1 hj with rfl|hj
 ·unfold wpOp
  simp only[ho]
  have:=h hL (fun a' w'=>(st (L.setIfInBounds j true)=false→S w')∧rZ P md fA Q st S fuel (L.setIfInBounds j true) a' w') (fun a w h1 h2=>⟨h1,h2⟩)
  split
  ·rename_i hw;rw[ip hw]at this;exact .inl this
  ·rename_i hw;rw[iN hw]at this;exact this
 ·exact hs j hj hL
theorem iV{rs:List Nat}{fuel:Nat}{L:Array Bool}{a:EI}{w:aE}(hr:jQ md fA L=rs)(lE:rs≠[])(hL:Df md fA L)
 (h:sX P md fA Q st S fuel L a w rs):rZ P md fA Q st S (fuel+1) L a w:=VG hr lE fun i hi=>h i hi (hL.set (by rw[hr];exact hi))
theorem S0{id:Nat}{a:EI}{w:aE}(hm:P.follows .mixedOrders=true)
 (h:rZ P .any fA Q st S fA.size (pG fA.size false) a {w with drawn:=w.drawn+1}):(OK id fA true).wp P Q a w:=
 wp_region_any hm (Ml _ _ _ _ h)
theorem IU{id:Nat}{a:EI}{w:aE}(hm:P.follows .mixedOrders=true)(hS:S w.drew)
 (h:Df .any fA (pG fA.size false)→S w.drew→rZ P .any fA Q st S fA.size (pG fA.size false) a w.drew):(OK id fA true).wp P Q a w:=
 S0 hm (h (Df.none _) hS)
end
end
section
open Go Go.RowKit Go.Lib
section
attribute[local go_sem] Oper.semAt_some
theorem Ih.below{W W':aE}{G:Nat}{xs ys:bB}(h:Ih W G xs ys)(hb:aJ W.heap.size W W'):Ih W' G xs ys:=by
 obtain⟨m2,m3,m4,h0,⟨c2,h2⟩,⟨c3,h3⟩,⟨c4,h4⟩⟩:=h;exact⟨m2,m3,m4,h0.below hb h0.lt,⟨c2,(hb.block m2 (Array.getElem?_eq_some_iff.1 h2).1).trans h2⟩,⟨c3,(hb.block m3 (Array.getElem?_eq_some_iff.1 h3).1).trans h3⟩,⟨c4,(hb.block m4 (Array.getElem?_eq_some_iff.1 h4).1).trans h4⟩⟩
theorem Zu(Bg Bw G:Nat)(xs ys:bB)(x y d dx dy:Int)(w:aE)(hg:Ih w G xs ys)(hb:bZ w Bg #[cB (some ⟨G,0,none⟩)] 86)(hw:bZ w Bw #[aF aG x,aF aG y,aF aG d] 148):
 aQ aC 171 #[dM #[aF aG dx,aF aG dy],cB (some ⟨Bg,0,none⟩),cB (some ⟨Bw,0,none⟩)] w (Rt (aM false) w):=by
 have fP:=(aI w.heap.size w).alloc (aD _) (aL #[aF aG dx,aF aG dy] 146);obtain⟨m2,m3,m4,h0,-,-,⟨c4,h4⟩⟩:=hg.below fP;have b1:=(hb.below fP hb.lt).cell 0;obtain⟨w0,w1,w2⟩:=(hw.below fP hw.lt).three;have g4:=h0.cell 4;obtain⟨e0,e1,-,-,lT⟩:=(bZ.new w #[aF aG dx,aF aG dy] 146).two;have mE:=zq fP;clear hg hb hw fP h0;obtain⟨W0,iU⟩:∃W,w.alloc (aL #[aF aG dx,aF aG dy] 146)=W:=⟨_,rfl⟩;rw[iU]at mE e0 e1 lT b1 w0 w1 w2 g4 h4;have HL:=fun n p q=>zr (w:=W0.drewN n) h4 p q;simp only[List.getElem?_toArray,List.getElem?_cons_zero,List.getElem?_cons_succ]at b1 g4;go_enter func171,ntmps171;go_upto_region 1 with(fail)
 try rw[iU]
 clear iU h4;go_quiet (fail)
 go_wp2;go_ret;exact⟨rfl,by first |exact mE.out|exact below_drewN mE.out _⟩
theorem ix_l0(W:aE):Az aC (nA 203 (dM #[aF aG 0,aF aG 0,aF aG (-1),aF aG 0,aF aG (-1),aF aG (-1),aF aG 0,aF aG (-1)]) (aF aG 0)) W=.ok (dM #[aF aG 0,aF aG 0]) W:=by first |kernel_rfl|rfl
theorem ix_r0(W:aE):Az aC (nA 203 (dM #[aF aG 0,aF aG (-1),aF aG 0,aF aG 0,aF aG (-1),aF aG 0,aF aG (-1),aF aG (-1)]) (aF aG 0)) W=.ok (dM #[aF aG 0,aF aG (-1)]) W:=by first |kernel_rfl|rfl
theorem ix_l1(W:aE):Az aC (nA 203 (dM #[aF aG 0,aF aG 0,aF aG (-1),aF aG 0,aF aG (-1),aF aG (-1),aF aG 0,aF aG (-1)]) (aF aG 1)) W=.ok (dM #[aF aG (-1),aF aG 0]) W:=by first |kernel_rfl|rfl
theorem ix_r1(W:aE):Az aC (nA 203 (dM #[aF aG 0,aF aG (-1),aF aG 0,aF aG 0,aF aG (-1),aF aG 0,aF aG (-1),aF aG (-1)]) (aF aG 1)) W=.ok (dM #[aF aG 0,aF aG 0]) W:=by first |kernel_rfl|rfl
theorem ix_l2(W:aE):Az aC (nA 203 (dM #[aF aG 0,aF aG 0,aF aG (-1),aF aG 0,aF aG (-1),aF aG (-1),aF aG 0,aF aG (-1)]) (aF aG 2)) W=.ok (dM #[aF aG (-1),aF aG (-1)]) W:=by first |kernel_rfl|rfl
theorem ix_r2(W:aE):Az aC (nA 203 (dM #[aF aG 0,aF aG (-1),aF aG 0,aF aG 0,aF aG (-1),aF aG 0,aF aG (-1),aF aG (-1)]) (aF aG 2)) W=.ok (dM #[aF aG (-1),aF aG 0]) W:=by first |kernel_rfl|rfl
theorem ix_l3(W:aE):Az aC (nA 203 (dM #[aF aG 0,aF aG 0,aF aG (-1),aF aG 0,aF aG (-1),aF aG (-1),aF aG 0,aF aG (-1)]) (aF aG 3)) W=.ok (dM #[aF aG 0,aF aG (-1)]) W:=by first |kernel_rfl|rfl
theorem ix_r3(W:aE):Az aC (nA 203 (dM #[aF aG 0,aF aG (-1),aF aG 0,aF aG 0,aF aG (-1),aF aG 0,aF aG (-1),aF aG (-1)]) (aF aG 3)) W=.ok (dM #[aF aG (-1),aF aG (-1)]) W:=by first |kernel_rfl|rfl
theorem BR(G:Nat)(xs ys:bB)(d l1 l2 r1 r2:Int)(w:aE)(hg:Ih w G xs ys)
 (q1:∀W,Az aC (nA 203 (dM #[aF aG 0,aF aG 0,aF aG (-1),aF aG 0,aF aG (-1),aF aG (-1),aF aG 0,aF aG (-1)]) (aF aG d)) W=.ok (dM #[aF aG l1,aF aG l2]) W)
 (q2:∀W,Az aC (nA 203 (dM #[aF aG 0,aF aG (-1),aF aG 0,aF aG 0,aF aG (-1),aF aG 0,aF aG (-1),aF aG (-1)]) (aF aG d)) W=.ok (dM #[aF aG r1,aF aG r2]) W):
 aQ aC 110 #[cB (some ⟨G,0,none⟩),dM #[aF aG 0,aF aG 0,aF aG d]] w (Rt (aM false) w):=by
 have fP:=((aI w.heap.size w).alloc (aD _) (aL #[cB (some ⟨G,0,none⟩)] 86)).alloc (by simp) (aL #[aF aG 0,aF aG 0,aF aG d] 148);have hb0:=(bZ.new w #[cB (some ⟨G,0,none⟩)] 86).alloc (aL #[aF aG 0,aF aG 0,aF aG d] 148);have OW:=bZ.new (w.alloc (aL #[cB (some ⟨G,0,none⟩)] 86)) #[aF aG 0,aF aG 0,aF aG d] 148;rw[World.size_alloc]at OW;obtain⟨W0,iU⟩:∃W,(w.alloc (aL #[cB (some ⟨G,0,none⟩)] 86)).alloc (aL #[aF aG 0,aF aG 0,aF aG d] 148)=W:=⟨_,rfl⟩;rw[iU]at fP hb0 OW;have HI:aY (∀dx dy W,aJ W0.heap.size W0 W→aQ aC 171 #[dM #[aF aG dx,aF aG dy],cB (some ⟨w.heap.size,0,none⟩),cB (some ⟨w.heap.size+1,0,none⟩)] W (Rt (aM false) W)):=fun dx dy W h=>
  Zu _ _ G xs ys 0 0 d dx dy W ((hg.below fP).below h) (hb0.below h hb0.lt) (OW.below h OW.lt)
 have mE:=zq fP;obtain⟨w0,w1,w2⟩:=OW.three;have lT:=OW.lt;clear hg fP hb0 OW;go_enter func110,ntmps110;go_upto_if 8 with(fail);try rw[iU]
 clear iU;go_wp2_with fail
 (with_reducible refine(HI.out _ _ _ (((aI _ W0).alloc (aD _) _).alloc (by simp) _)).mono ?_);rintro e W1⟨rfl,hb1⟩;have fK:=zq (aT mE.out ((((aI _ W0).alloc (aD _) _).alloc (by simp) _).trans (hb1.mono (by simp;omega))));clear hb1;go_wp2;go_ret;exact⟨rfl,fK.out⟩
theorem S4(G:Nat)(xs ys:bB)(d:Nat)(hd:d<4)(w:aE)(hg:Ih w G xs ys):
 aQ aC 110 #[cB (some ⟨G,0,none⟩),dM #[aF aG 0,aF aG 0,aF aG d]] w (Rt (aM false) w):=
 match d,hd with
 |0,_=>BR G xs ys 0 _ _ _ _ w hg ix_l0 ix_r0
 |1,_=>BR G xs ys 1 _ _ _ _ w hg ix_l1 ix_r1
 |2,_=>BR G xs ys 2 _ _ _ _ w hg ix_l2 ix_r2
 |3,_=>BR G xs ys 3 _ _ _ _ w hg ix_l3 ix_r3
end
theorem me{α:Type}{l:List α}{i j:Nat}(hi:i<l.length)(hj:j<l.length)(z:α):z∈(l.set i l[j]).set j l[i]↔z∈l:=by
 constructor
 ·intro h;obtain⟨k,hk,e⟩:=fV h;rw[fS,fS]at hk;rw[sh]at e;split at e
  ·rw[←e];exact Ks hi
  ·rw[sh]at e;split at e
   ·rw[←e];exact Ks hj
   ·rw[←e];exact Ks hk
 ·intro h;obtain⟨k,hk,e⟩:=fV h;by_cases k1:j=k
  ·subst k1;by_cases k2:i=j
   ·subst k2;refine List.mem_iff_getElem.2 ⟨i,by rw[fS,fS];exact hk,?_⟩;rw[Do];exact e
   ·refine List.mem_iff_getElem.2 ⟨i,by rw[fS,fS];exact hi,?_⟩;rw[FA (fun h=>k2 h.symm),Do];exact e
  ·by_cases k2:i=k
   ·subst k2;refine List.mem_iff_getElem.2 ⟨j,by rw[fS,fS];exact hj,?_⟩;rw[Do];exact e
   ·refine List.mem_iff_getElem.2 ⟨k,by rw[fS,fS];exact hk,?_⟩;rw[FA k1,FA k2];exact e
theorem S6(ds:List (List UInt8))(i:Nat)(x:List UInt8):(strs ds).set i (aA (bs x))=strs (ds.set i x):=by
 unfold strs;rw[List.map_set]
def kY (base g n cap:Nat) (ds:List (List UInt8)) (w W:aE):Prop:=
 ∃ ds' :List (List UInt8),ds'.length=n∧(∀ z,z∈ds' ↔z∈ds)∧W.ownsRow base 24 1 (aB (some ⟨g,0,none⟩) n cap) n (strs ds')∧w.grownBy W (some g)
theorem BS{w W W':aE}{uJ:Option Nat}(h:w.grownBy W uJ)(hb:aJ W.heap.size W W'):w.grownBy W' uJ:=
 ⟨hb.os.trans h.os,hb.tape.trans h.tape,hb.output.trans h.output,cC h.size hb.size,fun k hk hn=>(hb.block k (bQ hk h.size)).trans (h.block k hk hn)⟩
theorem Mm{a b c:aE}{uJ:Option Nat}(h:a.grownBy b uJ)(k:b.grownBy c uJ):a.grownBy c uJ:=
 ⟨k.os.trans h.os,k.tape.trans h.tape,k.output.trans h.output,cC h.size k.size,fun i hi hn=>(k.block i (bQ hi h.size) hn).trans (h.block i hi hn)⟩
theorem VH(a:aE)(uJ:Option Nat):a.grownBy a uJ:=⟨rfl,rfl,rfl,aD _,fun _ _ _=>rfl⟩
theorem kY.below{base g n cap:Nat}{ds:List (List UInt8)}{w W W':aE}(h:kY base g n cap ds w W)(hb:aJ W.heap.size W W'):kY base g n cap ds w W':=by
 obtain⟨ds',h1,h2,h3,h4⟩:=h;exact⟨ds',h1,h2,cT h3 hb,BS h4 hb⟩
theorem kY.swap{base g n cap:Nat}{ds ds':List (List UInt8)}{w W:aE}(h1:ds'.length=n)(h2:∀z,z∈ds'↔z∈ds)(h3:W.ownsRow base 24 1 (aB (some ⟨g,0,none⟩) n cap) n (strs ds'))(h4:w.grownBy W (some g))
 {i j:Nat}(hi:i<n)(hj:j<n){x y:List UInt8}(hx:ds'.getD i []=x)(hy:ds'.getD j []=y):
 kY base g n cap ds w ((W.setCell ⟨g,i,none⟩ (aA (bs y))).setCell ⟨g,j,none⟩ (aA (bs x))):=by
 have hi':i<ds'.length:=by omega
 have hj':j<ds'.length:=by omega
 have ex:ds'[i]=x:=by rw[←hx];simp[aN,hi']
 have ey:ds'[j]=y:=by rw[←hy];simp[aN,hj']
 obtain⟨k1,k2⟩:=h3.stored i (aA (bs y));obtain⟨k3,k4⟩:=k1.stored j (aA (bs x));rw[S6,S6]at k3;refine⟨(ds'.set i y).set j x,by rw[fS,fS];exact h1,fun z=>?_,k3,Mm (Mm h4 k2) k4⟩;rw[←ex,←ey,me hi' hj'];exact h2 z
theorem mf(cf:Nat)(eg:∀args w,(callFunc cf args).run aC w=.ok (.enter cf args) w)(hcf:∀(x y:List UInt8)(W:aE),eZ W→x.length≤8000000→y.length≤8000000→aQ aC cf #[aA (bs x),aA (bs y)] W fun e w'=>(∃c:Int,e=aO (aF aG c))∧aJ W.heap.size W w')
 (base g n cap:Nat)(ds:List (List UInt8))(w0 w:aE)(hE:eZ w0)(hB:aJ w0.heap.size w0 w)(hb:w0.heap.size≤base)(hn:n≤1000)(hl:ds.length=n)(hs:∀s∈ds,s.length≤8000000)
 (hown:w.ownsRow base 24 1 (aB (some ⟨g,0,none⟩) n cap) n (strs ds)):
 aQ aC 220 #[aB (some ⟨g,0,none⟩) n cap,aF aG 0,aF aG n,.func (.func cf) #[] #[]] w fun e w'=>(∃v,e=aO v)∧kY base g n cap ds w w':=by
 have hcapn:=dJ hown;have HC:aY (∀W,kY base g n cap ds w W→∀x y:List UInt8,x∈ds→y∈ds→∀W2,aJ W.heap.size W W2→aQ aC cf #[aA (bs x),aA (bs y)] W2 fun e w'=>(∃c:Int,e=aO (aF aG c))∧aJ W2.heap.size W2 w'):=by
  rintro W⟨ds',-,-,-,h4⟩x y hx hy W2 h2;have hE2:eZ W2:=hE.below ((hB.grown h4 hB.size (fun k e=>by cases e;exact cC hb hcapn.1)).trans (h2.mono (cC hB.size h4.size)));exact hcf x y W2 hE2 (hs x hx) (hs y hy)
 have H0:aY (kY base g n cap ds w w):=⟨ds,hl,fun _=>Iff.rfl,hown,VH _ _⟩;obtain⟨-,hglt,hnc,hcm⟩:=hcapn;unfold maxLen at hcm;clear hE hB hb hl hs hown hglt hcf;go_enter func220,ntmps220;go_wp2;go_loopw[8] (fun i wr=>∃k:Nat,i=aF aG k∧1≤k∧(k=1∨k≤n)∧aY (kY base g n cap ds w wr)) (fun i _=>n-(aK i).toNat);case atStart=>exact⟨1,rfl,by omega,.inl rfl,H0.out⟩
 case round=>
  clear H0;obtain⟨k,rfl,Rm,UN,HS⟩:=hrel;by_cases hlt:k<n
  ·go_wp2;go_loopw[9] (fun a W=>∃j:Nat,a=aF aG j∧j≤k∧aY (kY base g n cap ds w W)) (fun a _=>(aK a).toNat);case atStart=>exact⟨k,rfl,aD _,HS.out⟩
   case round=>
    clear HS;obtain⟨j,rfl,hj,HS⟩:=hrel;by_cases hj0:0<j
    ·obtain⟨q,hq⟩:∃q,j=q+1:=⟨j-1,by omega⟩;obtain⟨ds',k1,k2,k3,k4⟩:=HS.out;have lx:j<ds'.length:=by omega
     have ly:q<ds'.length:=by omega
     have cx:wr.cell? ⟨g,j,none⟩=some (aA (bs (ds'.getD j []))):=by
      rw[gJ k3 j (by omega)];simp[strs,aN,lx]
     have cy:wr.cell? ⟨g,q,none⟩=some (aA (bs (ds'.getD q []))):=by
      rw[gJ k3 q (by omega)];simp[strs,aN,ly]
     have Cm:=zq (HC.out wr HS.out (ds'.getD j []) (ds'.getD q []) ((k2 _).1 (cP lx [])) ((k2 _).1 (cP ly [])));have HSw:aY (∀W',aJ wr.heap.size wr W'→kY base g n cap ds w ((W'.setCell ⟨g,j,none⟩ (aA (bs (ds'.getD q [])))).setCell ⟨g,q,none⟩ (aA (bs (ds'.getD j []))))):=fun W' h=>
      kY.swap k1 k2 (cT k3 h) (BS k4 h) (by omega) (by omega) rfl rfl
     have HSw2:aY (∀W',aJ wr.heap.size wr W'→kY base g n cap ds w ((W'.setCell ⟨g,q,none⟩ (aA (bs (ds'.getD j [])))).setCell ⟨g,j,none⟩ (aA (bs (ds'.getD q []))))):=fun W' h=>
      kY.swap k1 k2 (cT k3 h) (BS k4 h) (by omega) (by omega) rfl rfl
     have HFz:aY (∀W',aJ wr.heap.size wr W'→W'.frozen? ⟨g,j,none⟩=false∧W'.frozen? ⟨g,q,none⟩=false):=fun W' h=>
      ⟨eO (cT k3 h) j,eO (cT k3 h) q⟩
     clear lx ly k1 k2 k3 k4;generalize bs (ds'.getD j [])=X at *;generalize bs (ds'.getD q [])=Y at *;have e1:(j:Int)-1=(q:Int):=by omega
     have s1:IntKind.i64.wrap ((j:Int)-1)=(q:Int):=by rw[e1];exact aP _ (by omega)
     have b1:(j:Int)<(n:Int):=by omega
     have b2:(q:Int)<(n:Int):=by omega
     have b3:decide ((0:Int)<(j:Int))=true:=decide_eq_true (by omega);have b4:(0:Int)≤(j:Int):=by omega
     have b5:(0:Int)≤(q:Int):=by omega
     have E1:=zq e1;have Hq:=zq hq;have lE:¬j=q:=by omega
     clear e1 hq;go_wp2;go_cut[34] (fun v W=>(∃b:Bool,v=aM b)∧aY (aJ wr.heap.size wr W));case first =>
      go_region_held3 (fun w'=>w'.cell? ⟨g,j,none⟩=some (aA X)∧w'.cell? ⟨g,q,none⟩=some (aA Y)) (go_keep)
       (((with_reducible refine(Cm.out _ (aI _ wr).drew).mono ?_);rintro e w1 ⟨⟨c,rfl⟩,hb1⟩;have Uz:=zq (aT (aI _ wr).drew hb1);have m0:=bV hb1 (p:=⟨g,j,none⟩) (v:=aA X) (by simp[*]);have m1:=bV hb1 (p:=⟨g,q,none⟩) (v:=aA Y) (by simp[*])))
      all_goals
       go_wp2;go_meet;case rel=>exact⟨⟨_,rfl⟩,Uz.out⟩
     case rest=>
     obtain⟨⟨b,rfl⟩,HBo⟩:=hcut;rename aE=>W3;have x1:=bV HBo.out cx;have y1:=bV HBo.out cy;obtain⟨z1,z2⟩:=HFz.out _ HBo.out;have HS3:=zq (HS.out.below HBo.out);clear cx cy Cm;have bo:aY (kY base g n cap ds w ((W3.setCell ⟨g,j,none⟩ (aA Y)).setCell ⟨g,q,none⟩ (aA X)).drew):=(HSw.out _ HBo.out).below (aI _ _).drew;cases b with
     |true=>
      go_wp2;go_region;all_goals
       go_wp2;go_roundw;case rel=>exact⟨q,rfl,by have:=Hq.out;omega,bo.out⟩
       case measure=>have:=Hq.out;simp only[aK];omega
     |false=>
      clear s1;go_wp2;go_roundw;case rel=>exact⟨k+1,by go_num,by omega,by omega,HS3.out⟩
      case measure=>simp only[aK];omega
    ·obtain rfl:j=0:=by omega
     have b3:decide ((0:Int)<((0:Nat):Int))=false:=rfl;have HS3:=zq (HS.out.below (aI _ wr).drew);go_wp2;refine wp_region_held_drew (S:=(fun _=>True)) (by kernel_rfl) ?_ (fun wF=>?_)
     ·trivial
     refine tH 0 rfl ?_;refine tH 1 rfl ?_;refine tH 2 rfl ?_;refine tH 3 rfl ?_;refine sH 4 rfl ?_;refine sH 5 rfl ?_;refine sH 6 rfl ?_;refine sH 7 rfl ?_;refine sH 8 rfl ?_;refine sH 9 rfl ?_;refine sH 10 rfl ?_;refine sH 11 rfl ?_;refine sH 12 rfl ?_;refine sH 13 rfl ?_;refine sH 14 rfl ?_;refine sH 15 rfl ?_;refine tH 16 rfl ?_;try simp only[Act.put,List.getElem_toArray,List.getElem_cons_succ,List.getElem_cons_zero,List.setIfInBounds_toArray,List.set_cons_zero,List.set_cons_succ]
     refine wpAnyH_done (by kernel_rfl) ?_ _;go_wp2;go_roundw;case rel=>exact⟨k+1,by go_num,by omega,by omega,HS3.out⟩
     case measure=>simp only[aK];omega
  ·go_wp2;go_end0;exact⟨⟨_,rfl⟩,HS.out⟩
theorem VI(n:Nat)(hn:n≤5)(w:aE):aQ aC 229 #[aF .u64 n] w fun e w'=>(∃c:Int,e=aO (aF aG c))∧w=w':=by
 have h:n=0∨n=1∨n=2∨n=3∨n=4∨n=5:=by omega
 clear hn;rcases h with rfl|rfl|rfl|rfl|rfl|rfl;all_goals
  go_enter func229,ntmps229;go_wp2;go_ret;exact⟨⟨_,rfl⟩,rfl⟩
theorem S7(n:Nat)(hn:n≤5)(w:aE):aQ aC 166 #[aF .u64 n] w fun e w'=>(∃c:Int,e=aO (aF aG c))∧w=w':=by
 have H:=zq (VI n hn w);have h0:(0:Int)≤(n:Int):=by omega
 have h1:(n:Int)≤5:=by omega
 clear hn;go_enter func166,ntmps166;go_wp2_with fail
 refine H.out.mono ?_;rintro e w'⟨⟨c,rfl⟩,rfl⟩;go_wp2;go_ret;exact⟨⟨_,rfl⟩,rfl⟩
theorem Zv(base g n cap:Nat)(c:Int)(ds:List (List UInt8))(f:bB)(w:aE)(hn:n≤5)
 (hins:aQ aC 220 #[aB (some ⟨g,0,none⟩) n cap,aF aG 0,aF aG n,f] w fun e w'=>(∃v,e=aO v)∧kY base g n cap ds w w'):
 aQ aC 165 #[aB (some ⟨g,0,none⟩) n cap,aF aG 0,aF aG n,aF aG c,f] w fun e w'=>(∃v,e=aO v)∧kY base g n cap ds w w':=by
 have H:=zq hins;have h1:(n:Int)≤12:=by omega
 clear hins hn;go_enter func165,ntmps165;go_wp2;go_loop [1,2] (fun a b=>a=aF aG 0∧b=aF aG n) (fun _ _=>0);case atStart=>exact⟨rfl,rfl⟩
 case round=>
  obtain⟨rfl,rfl⟩:=hrel;go_wp2_with fail
  refine H.out.mono ?_;rintro e w'⟨⟨v,rfl⟩,hs⟩;have HS:=zq hs;clear hs;go_wp2;refine bodyPost_ret (results_none rfl _ _ _) rfl ?_;exact⟨⟨_,rfl⟩,HS.out⟩
theorem Mn(cf:Nat)(eg:∀args w,(callFunc cf args).run aC w=.ok (.enter cf args) w)(hcf:∀(x y:List UInt8)(W:aE),eZ W→x.length≤8000000→y.length≤8000000→aQ aC cf #[aA (bs x),aA (bs y)] W fun e w'=>(∃c:Int,e=aO (aF aG c))∧aJ W.heap.size W w')
 (base g n cap:Nat)(ds:List (List UInt8))(w0 w:aE)(hE:eZ w0)(hB:aJ w0.heap.size w0 w)(hb:w0.heap.size≤base)(hn:n≤5)(hl:ds.length=n)(hs:∀s∈ds,s.length≤8000000)
 (hown:w.ownsRow base 24 1 (aB (some ⟨g,0,none⟩) n cap) n (strs ds)):
 aQ aC 105 #[aB (some ⟨g,0,none⟩) n cap,.func (.func cf) #[] #[]] w fun e w'=>(∃v,e=aO v)∧kY base g n cap ds w w':=by
 have H:=zq (fun c=>Zv base g n cap c ds _ w hn (mf cf eg hcf base g n cap ds w0 w hE hB hb (by omega) hl hs hown));have HL:=zq (S7 n hn w);have h0:(0:Int)≤(n:Int):=by omega
 have h1:(n:Int)≤5:=by omega
 clear hE hB hb hn hl hs hown;go_enter func105,ntmps105;go_wp2_with fail
 refine HL.out.mono ?_;rintro e w'⟨⟨c,rfl⟩,rfl⟩;go_wp2_with fail
 refine(H.out _).mono ?_;rintro e w'⟨⟨v,rfl⟩,hs⟩;have HS:=zq hs;clear hs;go_wp2;go_end0;exact⟨⟨_,rfl⟩,HS.out⟩
theorem Zw(base g n cap:Nat)(ds:List (List UInt8))(w0 w:aE)(hE:eZ w0)(hB:aJ w0.heap.size w0 w)(hb:w0.heap.size≤base)(hn:n≤5)(hl:ds.length=n)(hs:∀s∈ds,s.length≤8000000)
 (hown:w.ownsRow base 24 1 (aB (some ⟨g,0,none⟩) n cap) n (strs ds)):
 aQ aC 105 #[aB (some ⟨g,0,none⟩) n cap,.func (.func 114) #[] #[]] w fun e w'=>(∃v,e=aO v)∧kY base g n cap ds w w':=
 Mn 114 (enters_of func114 (by kernel_rfl) rfl) (fun x y W hE hx hy=>by
  refine(L9 (bs x) (bs y) W hE (by rw[bU];exact hx) (by rw[bU];exact hy)).mono ?_
  rintro e w'⟨h1,h2⟩
  exact⟨⟨_,h1⟩,h2⟩) base g n cap ds w0 w hE hB hb hn hl hs hown
end
section
open Go.Shelf
def Tryz.cmK_ren:lI:=⟨fun |43=>106|n=>n,fun |22=>47|23=>24|3=>3|4=>4|0=>0|n=>n,fun |n=>n⟩
theorem Tryz.cmK:vl aC Tryz.cmK_ren:={
 mixed:=by kernel_rfl
 f43:=⟨Tryz.f106.name,by decide,func106.trans (congrArg some (by kernel_rfl))⟩
 t0:=underlying0
 a0:=isAgg0
 z0:=sizeOf0
 v0:=zeroValue0
 t3:=underlying3
 a3:=isAgg3
 z3:=sizeOf3
 v3:=zeroValue3
 t4:=underlying4
 a4:=isAgg4
 z4:=sizeOf4
 v4:=zeroValue4
 t22:=Kx
 a22:=isAgg47
 z22:=sizeOf47
 v22:=zeroValue47
 a23:=isAgg24
 z23:=sizeOf24}
open Go Go.RowKit Go.Lib Go.Sort Go.Shelf
theorem S8(ds:List (List UInt8)):∀z,z∈B8 ds.toArray ds.length↔z∈ds:=by
 intro z;have hg:∀j,j<ds.length→ds.toArray[j]! =ds.getD j []:=fun j hj=>by simp[aN,hj]
 unfold B8;constructor
 ·intro h;obtain⟨j,hj,rfl⟩:=List.mem_map.1 h;have hj:=List.mem_range.1 (List.mem_filter.1 hj).1;rw[hg j hj];exact cP hj []
 ·intro h;obtain⟨j,hj,rfl⟩:=fV h;have:∀k j,j<ds.length→j≤k→ds.getD j []∈List.map (fun x=>ds.toArray[x]!) (List.filter (keeps ds.toArray) (List.range ds.length)):=by
   intro k;induction k with
   |zero=>
    intro j hj h0;obtain rfl:j=0:=by omega
    refine List.mem_map.2 ⟨0,List.mem_filter.2 ⟨List.mem_range.2 hj,?_⟩,hg 0 hj⟩;simp[keeps]
   |succ k ih=>
    intro j hj hk;by_cases hkp:keeps ds.toArray j=true
    ·exact List.mem_map.2 ⟨j,List.mem_filter.2 ⟨List.mem_range.2 hj,hkp⟩,hg j hj⟩
    ·unfold keeps at hkp;rw[decide_eq_true_eq]at hkp;have h0:j≠0:=fun e=>hkp (.inl e);have he:ds.toArray[j]! =ds.toArray[j-1]! :=fZ fun e=>hkp (.inr e);rw[hg j hj,hg (j-1) (by omega)]at he;rw[he];exact ih (j-1) (by omega) (by omega)
  have:=this j j hj (aD _);rwa[show ds.getD j []=ds[j] by simp[aN,hj]]at this
def CmpRet(g n cap:Nat)(ds:List (List UInt8))(w:aE)(e:Ending)(w':aE):Prop:=
 ∃(m:Nat)(L:List (List UInt8)),e=aO (aB (some ⟨g,0,none⟩) m cap)∧L.length=m∧m≤n∧(∀z,z∈L↔z∈ds)∧rW w' (some ⟨g,0,none⟩) (strs L)∧w.grownBy w' (some g)
theorem Mo (base g n cap:Nat) (ds:List (List UInt8)) (w:aE) (hn:n≤1000) (hl:ds.length=n)
 (hown:w.ownsRow base 24 1 (aB (some ⟨g,0,none⟩) n cap) n (strs ds)) :
 aQ aC 106 #[aB (some ⟨g,0,none⟩) n cap] w fun e w' => ∃ L:List (List UInt8),L=B8 ds.toArray n∧e=aO (aB (some ⟨g,0,none⟩) L.length cap)∧L.length≤n∧(∀ z,z∈L↔z∈ds)∧rW w' (some ⟨g,0,none⟩) (strs L)∧w.grownBy w' (some g):=by
 obtain⟨-,hglt,hnc, -⟩:=dJ hown;have hH:Holds (fun l:List UInt8=> aA (bs l)) w g 0 ds.toArray:=by
  intro j hj;have hj:j < ds.length:=by simpa using hj
  rw [Nat.zero_add];refine⟨?_,eO hown j⟩;rw [gJ hown j (by omega)];simp [strs,hj]
 have heq:EqlAt aC 24 (fun l:List UInt8=> aA (bs l)) (fun x y=> decide (x=y)):=by
  refine⟨fun x y w=> ?_,fun op a b x y w=> (EqlAt.string aC 24).2 op a b (bs x) (bs y) w⟩;rw [(EqlAt.string aC 24).1 (bs x) (bs y) w];simp only [cI,aX];congr 2;rw [EK];simp
 have lE:NeqAt aC 24 (fun l:List UInt8=> aA (bs l)) (fun x y=> decide (x=y)):=by
  refine⟨fun x y w=> ?_,heq.2⟩;rw [(NeqAt.string aC 24).1 (bs x) (bs y) w];simp only [cI,aX];congr 3;rw [EK];simp
 have H:=AnyE.slices_Compact Tryz.cmK (fun l:List UInt8=> aA (bs l)) (fun _=> rfl) heq lE [] (fun w=> by kernel_rfl) g 0 cap ds.toArray w hH (by simp;omega) (by simp;omega);have oB:ds.toArray.size=n:=by simp [hl]
 rw [oB] at H;refine Calls.mono H ?_;rintro e w' ⟨rfl,q,rfl⟩;have hm:=S8 ds;rw [hl] at hm;have kN:(B8 ds.toArray n).length≤n:=by
  unfold B8;rw [cG];exact cC (List.length_filter_le _ _) (by simp)
 generalize B8 ds.toArray n=L at *;refine⟨L,rfl,rfl,kN,hm, ?_, ?_⟩
 ·intro i hi;rw [lS] at hi;have hh:=holds_putRow (fun l:List UInt8=> aA (bs l)) (Sort.ahead w q) g 0 ds.toArray (L ++ bY (n - L.length) []).toArray (holds_ahead _ w q g 0 _ hH) (by simp;omega);obtain⟨h1, -⟩:=hh i (by simp;omega);refine⟨g,0,rfl, ?_⟩;rw [h1,mR L hi];have:(L ++ bY (n - L.length) [])[i]? =some L[i]:=by rw [List.getElem?_append_left hi];simp [hi]
  simp [aN,hi,this]
 ·refine⟨rfl,rfl,rfl,by simp [putRow,mapBlock,Sort.ahead],fun k _ hk=> ?_⟩;show(Array.modify w.heap g _)[k]? =_;rw [Array.getElem?_modify,iN (fun e=> hk (by rw [e]))]
theorem PP(base g n cap:Nat)(ds:List (List UInt8))(w:aE)(hn:n≤1000)(hl:ds.length=n)
 (hown:w.ownsRow base 24 1 (aB (some ⟨g,0,none⟩) n cap) n (strs ds)):
 aQ aC 106 #[aB (some ⟨g,0,none⟩) n cap] w (CmpRet g n cap ds w):=by
 refine(Mo base g n cap ds w hn hl hown).mono ?_;rintro e w'⟨L,-,he,h1,h2,h3,h4⟩;exact⟨L.length,L,he,rfl,h1,h2,h3,h4⟩
end
section
open Go Go.RowKit Go.Lib
theorem mY{W:aE}{b base e size n:Nat}{cs:Array bB}{T:Ii}{v:bB}{xs:List bB}(hb:bZ W b cs T)(h:W.ownsRow base e size v n xs)(lE:T≠e):some b≠v.ownBlock:=by
 rcases h.2 with⟨h,_⟩|⟨g,c,D7,h,_,k,_⟩
 ·rw[h];simp[zQ]
 ·rw[h];intro e;have e:b=g:=by simpa[zQ]using e
  subst e;have BK:W.heap[b]? =some (aL cs T (0,0)):=hb;rw[BK]at k;cases k;exact lE rfl
theorem qM{W W':aE}{b:Nat}{cs:Array bB}{T:Ii}(h:bZ W b cs T){uJ:Option Nat}(hg:W.grownBy W' uJ)(lE:some b≠uJ):bZ W' b cs T:=(hg.block b h.lt lE).trans h
theorem Ih.grown{W W':aE}{G:Nat}{xs ys:bB}(h:Ih W G xs ys){base e size n:Nat}{v:bB}{us:List bB}(ho:W.ownsRow base e size v n us)(lE:135≠e)(hg:W.grownBy W' v.ownBlock):Ih W' G xs ys:=by
 obtain⟨m2,m3,m4,h0,⟨c2,h2⟩,⟨c3,h3⟩,⟨c4,h4⟩⟩:=h;have mk:∀m c,W.heap[m]? =some (sj #[] c)→W'.heap[m]? =some (sj #[] c):=fun m c hm=>by
  refine(hg.block m (Array.getElem?_eq_some_iff.1 hm).1 ?_).trans hm;rcases ho.2 with⟨h,_⟩|⟨g,c',D7,h,_,k,_⟩
  ·rw[h];simp[zQ]
  ·rw[h];intro e;have e:m=g:=by simpa[zQ]using e
   subst e;rw[hm]at k;cases k
 exact⟨m2,m3,m4,qM h0 hg (mY h0 ho lE),⟨c2,mk _ _ h2⟩,⟨c3,mk _ _ h3⟩,⟨c4,mk _ _ h4⟩⟩
theorem Ih.set{W:aE}{G:Nat}{xs ys:bB}(h:Ih W G xs ys)(v:bB):Ih (W.setCell ⟨G,0,none⟩ v) G v ys∧Ih (W.setCell ⟨G,1,none⟩ v) G xs v:=by
 obtain⟨m2,m3,m4,h0,⟨c2,h2⟩,⟨c3,h3⟩,⟨c4,h4⟩⟩:=h;have mk:∀j m c,W.heap[m]? =some (sj #[] c)→(W.setCell ⟨G,j,none⟩ v).heap[m]? =some (sj #[] c):=fun j m c hm=>by
  rw[Dn W ⟨G,j,none⟩ m v ?_];exact hm;intro e;have hG:W.heap[G]? =some (aL _ _ (0,0)):=h0;have e:m=G:=e;rw[e,hG]at hm;cases hm
 exact⟨⟨m2,m3,m4,h0.set 0 v,⟨c2,mk _ _ _ h2⟩,⟨c3,mk _ _ _ h3⟩,⟨c4,mk _ _ _ h4⟩⟩,⟨m2,m3,m4,h0.set 1 v,⟨c2,mk _ _ _ h2⟩,⟨c3,mk _ _ _ h3⟩,⟨c4,mk _ _ _ h4⟩⟩⟩
theorem Ih.cells{W:aE}{G:Nat}{xs ys:bB}(h:Ih W G xs ys):W.cell? ⟨G,0,none⟩=some xs∧W.cell? ⟨G,1,none⟩=some ys∧W.frozen? ⟨G,0,none⟩=false∧W.frozen? ⟨G,1,none⟩=false∧G<W.heap.size:=by
 obtain⟨m2,m3,m4,h0,-⟩:=h;exact⟨h0.cell 0,h0.cell 1,h0.fz 0,h0.fz 1,h0.lt⟩
theorem IV(W:aE)(a:Addr)(u:bB):W.grownBy (W.setCell a u) (some a.block):=
 ⟨rfl,rfl,rfl,by simp,fun k _ hk=>Dn W a k u (fun e=>hk (by rw[e]))⟩
theorem BU{W:aE}{b c:Nat}{cs ds:Array bB}{T U:Ii}(h:bZ W b cs T)(k:bZ W c ds U)(lE:T≠U):b≠c:=by
 intro e;subst e;have h':W.heap[b]? =some (aL cs T (0,0)):=h;have k':W.heap[b]? =some (aL ds U (0,0)):=k;rw[h']at k';cases k';exact lE rfl
structure R9(w0:aE)(TB:Nat)(tc:Array bB)(B G C:Nat)(T:ByteArray)(W:aE)(vx vy ux uy:bB)(kx ky:Nat):Prop where
 grd:Ih W G vx vy
 pt:bZ W C #[aA T,aA T] 56
 tr:bZ W TB tc 58
 ox:W.ownsRow B 24 1 ux kx (bY kx (aA T))
 oy:W.ownsRow B 24 1 uy ky (bY ky (aA T))
 sep:ux.ownBlock=none∨ux.ownBlock≠uy.ownBlock
 bel:aJ w0.heap.size w0 W
 bs:B≤W.heap.size
 hb:w0.heap.size≤B
section
variable{w0:aE}{TB:Nat}{tc:Array bB}{B G C:Nat}{T:ByteArray}{W W':aE}{vx vy ux uy:bB}{kx ky:Nat}
theorem R9.below(h:R9 w0 TB tc B G C T W vx vy ux uy kx ky)(hb:aJ W.heap.size W W'):R9 w0 TB tc B G C T W' vx vy ux uy kx ky:=
 ⟨h.grd.below hb,h.pt.below hb h.pt.lt,h.tr.below hb h.tr.lt,cT h.ox hb,cT h.oy hb,h.sep,aT h.bel hb,cC h.bs hb.size,h.hb⟩
theorem R9.freshX(h:R9 w0 TB tc B G C T W vx vy ux uy kx ky):some W.heap.size≠ux.ownBlock:=fun e=>by
 have:=(h.ox.lt _ e.symm).2;omega
theorem R9.appX(h:R9 w0 TB tc B G C T W vx vy ux uy kx ky){g cap:Nat}
 (ho:W'.ownsRow B 24 1 (aB (some ⟨g,0,none⟩) (kx+1) cap) (kx+1) (bY kx (aA T)++[aA T]))(hg:W.grownBy W' ux.ownBlock)(Fo:ux.ownBlock=some g∨g=W.heap.size):
 R9 w0 TB tc B G C T W' vx vy (aB (some ⟨g,0,none⟩) (kx+1) cap) uy (kx+1) ky:=by
 have hyk:uy.ownBlock=none∨uy.ownBlock≠ux.ownBlock:=by
  rcases h.sep with h1|h1
  ·rw[h1];cases uy.ownBlock with
   |none=>exact .inl rfl
   |some g=>exact .inr (by simp)
  ·exact .inr (Ne.symm h1)
 refine⟨h.grd.grown h.ox (by decide) hg,qM h.pt hg (mY h.pt h.ox (by decide)),qM h.tr hg (mY h.tr h.ox (by decide)),by rw[WC];exact ho,h.oy.kept hg hyk,.inr ?_,
  dB h.bel hg h.ox h.hb h.bel.size,cC h.bs hg.size,h.hb⟩
 show some g≠uy.ownBlock;intro e;rcases Fo with h1|h1
 ·rcases h.sep with h2|h2
  ·rw[h2]at h1;cases h1
  ·exact h2 (h1.trans e)
 ·have:=(h.oy.lt g e.symm).2;omega
theorem R9.appY(h:R9 w0 TB tc B G C T W vx vy ux uy kx ky){g cap:Nat}
 (ho:W'.ownsRow B 24 1 (aB (some ⟨g,0,none⟩) (ky+1) cap) (ky+1) (bY ky (aA T)++[aA T]))(hg:W.grownBy W' uy.ownBlock)(Fo:uy.ownBlock=some g∨g=W.heap.size):
 R9 w0 TB tc B G C T W' vx vy ux (aB (some ⟨g,0,none⟩) (ky+1) cap) kx (ky+1):=by
 refine⟨h.grd.grown h.oy (by decide) hg,qM h.pt hg (mY h.pt h.oy (by decide)),qM h.tr hg (mY h.tr h.oy (by decide)),h.ox.kept hg h.sep,by rw[WC];exact ho,?_,
  dB h.bel hg h.oy h.hb h.bel.size,cC h.bs hg.size,h.hb⟩
 by_cases hn:ux.ownBlock=none
 ·exact .inl hn
 ·right;show ux.ownBlock≠some g;intro e;rcases Fo with h1|h1
  ·rcases h.sep with h2|h2
   ·exact hn h2
   ·exact h2 (e.trans h1.symm)
  ·have:=(h.ox.lt g e).2;omega
theorem R9.set(h:R9 w0 TB tc B G C T W vx vy ux uy kx ky)(hG:w0.heap.size≤G)(v:bB):
 R9 w0 TB tc B G C T (W.setCell ⟨G,0,none⟩ v) v vy ux uy kx ky∧R9 w0 TB tc B G C T (W.setCell ⟨G,1,none⟩ v) vx v ux uy kx ky:=by
 obtain⟨m2,m3,m4,Zx,-⟩:=h.grd;have n1:C≠G:=BU h.pt Zx (by decide);have n2:TB≠G:=BU h.tr Zx (by decide);have kx':∀j,(W.setCell ⟨G,j,none⟩ v).ownsRow B 24 1 ux kx (bY kx (aA T)):=fun j=>h.ox.kept (IV W ⟨G,j,none⟩ v) (.inr (Ne.symm (mY Zx h.ox (by decide))));have ky':∀j,(W.setCell ⟨G,j,none⟩ v).ownsRow B 24 1 uy ky (bY ky (aA T)):=fun j=>h.oy.kept (IV W ⟨G,j,none⟩ v) (.inr (Ne.symm (mY Zx h.oy (by decide))));refine⟨⟨(h.grd.set v).1,h.pt.other v n1,h.tr.other v n2,kx' 0,ky' 0,h.sep,h.bel.setCell (p:=⟨G,0,none⟩) hG v,by rw[mO];exact h.bs,h.hb⟩,
  ⟨(h.grd.set v).2,h.pt.other v n1,h.tr.other v n2,kx' 1,ky' 1,h.sep,h.bel.setCell (p:=⟨G,1,none⟩) hG v,by rw[mO];exact h.bs,h.hb⟩⟩
theorem R9.cells(h:R9 w0 TB tc B G C T W vx vy ux uy kx ky):W.cell? ⟨G,0,none⟩=some vx∧W.cell? ⟨G,1,none⟩=some vy∧W.cell? ⟨C,0,none⟩=some (aA T)∧W.cell? ⟨C,1,none⟩=some (aA T):=
 ⟨h.grd.cells.1,h.grd.cells.2.1,h.pt.cell 0,h.pt.cell 1⟩
end
def GV(B:Nat)(W:aE)(G:Nat)(T:ByteArray)(k:Nat):Prop:=
 ∃vx vy:bB,Ih W G vx vy∧W.ownsRow B 24 1 vx k (bY k (aA T))∧W.ownsRow B 24 1 vy k (bY k (aA T))∧(vx.ownBlock=none∨vx.ownBlock≠vy.ownBlock)
theorem GV.below{B G k:Nat}{W W':aE}{T:ByteArray}(h:GV B W G T k)(hb:aJ W.heap.size W W'):GV B W' G T k:=by
 obtain⟨vx,vy,h1,h2,h3,h4⟩:=h;exact⟨vx,vy,h1.below hb,cT h2 hb,cT h3 hb,h4⟩
theorem Om{W:aE}{base e size n:Nat}{v:bB}{xs:List bB}(h:W.ownsRow base e size v n xs):∃a c,v=aB a n c:=by
 rcases h.2 with⟨h,h0⟩|⟨g,c,D7,h,_⟩
 ·exact⟨none,0,by rw[h,h0]⟩
 ·exact⟨_,_,h⟩
theorem A5{w:aE}{fA:Array A8}{o:A8}{a:EI}{K:EI→aE→Prop}{Q:Exit→EI→aE→Prop}{E:Prop}(FD:o.guard=none)(s x:Operand)
 (ho:o.op=.call {callee:=.builtin .append,args:= #[s,x],argTypes:= #[47,47]})(B:Nat)(v:bB)(n:Nat)(xs:List bB)(hs:a.eval s=v)(hown:w.ownsRow B 24 1 v n xs)
 (nb:Nat)(u:ByteArray)(hx:a.eval x=aB (some ⟨nb,0,none⟩) 1 1)(FH:bZ w nb #[aA u] 24)(QI:n+1≤100000)(lK:B≤w.heap.size)
 (h:∀g cap w',w'.ownsRow B 24 1 (aB (some ⟨g,0,none⟩) (n+1) cap) (n+1) (xs++[aA u])→w.grownBy w' v.ownBlock→(v.ownBlock=some g∨g=w.heap.size)→K (a.put o.dst (aB (some ⟨g,0,none⟩) (n+1) cap)) w'):
 if Ay o (yielded fA a.tmps)=true then Oper.wp aC o a w K Q else E:=by
 obtain⟨i0,hi,D8,uY,hz2⟩:=info_parts GQ;exact step_append_lies w FD s x 47 ho B 24 i0 (aA ⟨#[]⟩) 1 16 Kx hi D8 uY hz2 rfl (by decide) v n xs hs hown ⟨nb,0,none⟩ 1 1 [aA u] hx rfl (World.news_of_block FH) (by simp[Value.oneCell']) (by decide) (by unfold maxLen;omega) (by omega) lK _ rfl
  fun g cap w' h1 h2 h3 _=>h g cap w' h1 h2 h3
end
end Go.Proofs.YtcimoodjlopdaaaGreatDoor
