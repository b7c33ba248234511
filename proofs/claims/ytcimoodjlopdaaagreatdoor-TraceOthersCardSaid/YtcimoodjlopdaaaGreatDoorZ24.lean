import Derived.Outline
import Derived.Deep.CutBlock
import Derived.Test.YtcimoodjlopdaaaGreatDoorZ0
import Derived.Test.YtcimoodjlopdaaaGreatDoorZ6
import Derived.Test.YtcimoodjlopdaaaGreatDoorZ21
namespace Go.Proofs.YtcimoodjlopdaaaGreatDoor
set_option maxRecDepth 100000
set_option maxHeartbeats 8000000
set_option linter.all false
open Go.Proofs.Tryz
open Bool renaming eq_iff_iff->EK
open Classical renaming byContradiction->fZ
open Go renaming World->aE,wpAnyH_ready->xY
open Go.Act renaming put->eC
open Go.AllReadyH renaming cons->mH,nil->nG
open Go.Ending renaming returned->aO
open Go.IntKind renaming i64->aG
open Go.Obj renaming cells->aL
open Go.Proofs.Tryz renaming prog->aC
open Go.RowKit renaming Below->aJ,intOf->aK,Hid->aY
open Go.RowKit.Below renaming refl->aI
open Go.Value renaming string->aA,slice->aB,int->aF,bool->aM,tuple->bO
open Go.World renaming block_lt_of_cell?->bF,ownsRow_lit->jJ
open List renaming getD_eq_getElem?_getD->aN,setIfInBounds_toArray->aU,getElem_cons_zero->aZ,getElem_cons_succ->bA,getElem_toArray->bC,set_cons_succ->bG,set_cons_zero->bK,length_map->cG,length_append->cU,length_take->iW,length_drop->kK
open Nat renaming le_refl->aD,lt_of_lt_of_le->bQ,zero_le->bR,le_trans->cC,zero_add->gL
open Option.some renaming inj->vI
section
open Go Go.RowKit Go.Lib
theorem ZW(f g:FQ)(hf:f.Good)(hg:g.Good)(hup:f.up=g.up)(w:aE)(hE:eZ w):
 Calls aC 103 #[f.fr.v,g.fr.v] w fun e w'=>(∃a n cap,∃L:List Rat,e=aO (bO #[aB a n cap,aF aG 0])∧L.length=n∧n≤1000∧rW w' a (strs (L.map aV))∧(∀z,z∈L↔eU f g z)∧∀z∈L,HQ 198 z)∧aJ w.heap.size w w':=by
 have ug:=zq (fun(W:aE)(h:aJ w.heap.size w W)=>yV f hf W (hE.below h));have uh:=zq (fun(W:aE)(h:aJ w.heap.size w W)=>yV g hg W (hE.below h));have HPf:=zq (fun(z:Rat)(hz:HQ 198 z)(W:aE)(h:aJ w.heap.size w W)=>BO f hf z 198 hz (by decide) W (hE.below h));have HPg:=zq (fun(z:Rat)(hz:HQ 198 z)(W:aE)(h:aJ w.heap.size w W)=>BO g hg z 198 hz (by decide) W (hE.below h));have HDf:=zq (fun(z:Rat)(hz:HQ 198 z)(b:Bool)(W:aE)(h:aJ w.heap.size w W)=>Of f hf z 198 b hz (by decide) W (hE.below h));have HDg:=zq (fun(z:Rat)(hz:HQ 198 z)(b:Bool)(W:aE)(h:aJ w.heap.size w W)=>Of g hg z 198 b hz (by decide) W (hE.below h));have ZD:=zq (fun(W:aE)(h:aJ w.heap.size w W)=>hE.below h);have Hf:=zq hf;have Hg:=zq hg;have xv:=zq (fun(W:aE)(h:aJ w.heap.size w W)=>tZ hf.t hg.t (by decide) W (hE.below h));have evf:f.fr.v=.agg (AF f.up f.co f.dir (bs (aV f.v)) (bs (aV f.t))):=rfl;have evg:g.fr.v=.agg (AF g.up g.co g.dir (bs (aV g.v)) (bs (aV g.t))):=rfl;rw[evf]at ug HPf HDf⊢;rw[evg,←hup]at uh HPg HDg⊢;clear evf evg hf hg hE hup;have fP:aJ w.heap.size w ((w.alloc (aL (AF f.up f.co f.dir (bs (aV f.v)) (bs (aV f.t))) 44)).alloc (aL (AF f.up g.co g.dir (bs (aV g.v)) (bs (aV g.t))) 44)):=((aI _ w).alloc (aD _) _).alloc (by simp) _;have q1:bZ ((w.alloc (aL (AF f.up f.co f.dir (bs (aV f.v)) (bs (aV f.t))) 44)).alloc (aL (AF f.up g.co g.dir (bs (aV g.v)) (bs (aV g.t))) 44)) w.heap.size (AF f.up f.co f.dir (bs (aV f.v)) (bs (aV f.t))) 44:=(bZ.new w _ _).alloc _;have q2:bZ ((w.alloc (aL (AF f.up f.co f.dir (bs (aV f.v)) (bs (aV f.t))) 44)).alloc (aL (AF f.up g.co g.dir (bs (aV g.v)) (bs (aV g.t))) 44)) (w.heap.size+1) (AF f.up g.co g.dir (bs (aV g.v)) (bs (aV g.t))) 44:=by
  have:=bZ.new (w.alloc (aL (AF f.up f.co f.dir (bs (aV f.v)) (bs (aV f.t))) 44)) (AF f.up g.co g.dir (bs (aV g.v)) (bs (aV g.t))) 44;rwa[World.size_alloc]at this
 unfold AF at *;obtain⟨S1,tm⟩:∃S,bs (aV f.v)=S:=⟨_,rfl⟩;obtain⟨T1,hT1⟩:∃S,bs (aV f.t)=S:=⟨_,rfl⟩;obtain⟨S2,hS2⟩:∃S,bs (aV g.v)=S:=⟨_,rfl⟩;obtain⟨T2,Xj⟩:∃S,bs (aV g.t)=S:=⟨_,rfl⟩;rw[tm,hT1]at ug HPf HDf;rw[hS2,Xj]at uh HPg HDg;rw[hT1,Xj]at xv;rw[tm,hT1,hS2,Xj]at fP q1 q2⊢;have HT1:=zq hT1;have MP:=zq Xj;clear tm hT1 hS2 Xj;go_enter func103,ntmps103;go_wp2_with fail
 refine(ug.out _ fP).mono ?_;rintro e W1⟨rfl,hb1⟩;have gG:=aH fP hb1 fP.size;have q1:=q1.below hb1 q1.lt;have q2:=q2.below hb1 q2.lt;clear hb1 fP;obtain⟨d0,d1,d2,d3,d4⟩:=q2.front;have l2:=q2.lt;go_wp2_with fail
 refine(uh.out _ gG).mono ?_;rintro e W2⟨rfl,hb2⟩;have eQ:=aH gG hb2 gG.size;have q1:=q1.below hb2 q1.lt;have q2:=q2.below hb2 q2.lt;clear hb2 gG d0 d1 d2 d3 d4 l2;obtain⟨c0,c1,c2,c3,c4⟩:=q1.front;obtain⟨d0,d1,d2,d3,d4⟩:=q2.front;have l1:=q1.lt;have l2:=q2.lt;go_wp2;have fN:aJ w.heap.size w (W2.alloc (aL #[aA T1,aA T2] 24)):=eQ.alloc eQ.size _;have hown:=jJ W2 (base:=w.heap.size+2) (e:=24) (size:=1) #[aA T1,aA T2] 2 (by have:=q2.lt;omega) (by simp[maxLen]) rfl;have q1:=q1.alloc (aL #[aA T1,aA T2] 24);have q2:=q2.alloc (aL #[aA T1,aA T2] 24);obtain⟨W3,Y6⟩:∃W,W2.alloc (aL #[aA T1,aA T2] 24)=W:=⟨_,rfl⟩;obtain⟨G,hG⟩:∃G,W2.heap.size=G:=⟨_,rfl⟩;rw[Y6]at fN hown q1 q2⊢;rw[hG]at hown⊢;clear Y6 hG c0 c1 c2 c3 c4 d0 d1 d2 d3 d4 l1 l2 eQ;obtain⟨c0,c1,c2,c3,c4⟩:=q1.front;obtain⟨d0,d1,d2,d3,d4⟩:=q2.front;have l1:=q1.lt;have l2:=q2.lt;go_region;have Hcm1:aY (g.t<f.t→mJ f.t g.t=1):=Td;have Hcm2:aY (¬g.t<f.t→mJ f.t g.t= -1∨mJ f.t g.t=0):=Te;generalize mJ f.t g.t=cm at *;go_wp2_with fail
 refine(xv.out _ fN.drew).mono ?_;rintro e W4⟨rfl,hb4⟩;have hB4:=aH fN.drew hb4 fN.size;go_upto_if 44 with fail;go_cut[7,8] (fun u v w'=>u=aA (bs (aV (mW f g)))∧v=aA (bs (aV (kP f g)))∧W4=w');case first =>
  have E1:aY (mW f g=if g.t<f.t then g.t else f.t):=rfl;have E2:aY (kP f g=if g.t<f.t then f.t else g.t):=rfl;by_cases hgt:g.t<f.t
  ·have hcm:=zq (Hcm1.out hgt);obtain rfl:=hcm.out;rw[ip hgt]at E1 E2;clear hgt;go_wp2;go_meet;case rel=>exact⟨by rw[E1.out,MP.out],by rw[E2.out,HT1.out],rfl⟩
  ·have hcm:=zq (Hcm2.out hgt);rw[iN hgt]at E1 E2;clear hgt;rcases hcm.out with rfl|rfl;all_goals
    go_wp2;go_meet;case rel=>exact⟨by rw[E1.out,HT1.out],by rw[E2.out,MP.out],rfl⟩
 case rest=>
 obtain⟨rfl,rfl,rfl⟩:=hcut;have q1:=bZ.below (w:=W3.drew) q1 hb4 q1.lt;have q2:=bZ.below (w:=W3.drew) q2 hb4 q2.lt;have hown:=cT (w:=W3.drew) hown hb4;have zn:G<W4.heap.size:=(hown.lt G rfl).2;clear hb4 fN Hcm1 Hcm2 c0 c1 c2 c3 c4 d0 d1 d2 d3 d4 l1 l2;obtain⟨FT,hFT⟩:∃S,bs (aV (mW f g))=S:=⟨_,rfl⟩;obtain⟨LT,hLT⟩:∃S,bs (aV (kP f g))=S:=⟨_,rfl⟩;rw[hFT,hLT];have HFT:=zq hFT;have HLT:=zq hLT;clear hFT hLT;have hL0:aY (Mr f g 0 [f.t,g.t]):=⟨⟨by simp,by simp⟩,fun z hz=>by
  rcases List.mem_cons.1 hz with rfl|hz
  ·exact Hf.out.t.mono (by decide)
  ·rw[List.mem_singleton.1 hz];exact Hg.out.t.mono (by decide),fun j hj=>absurd hj (by omega)⟩
 have hxs:strs ([f.t,g.t].map aV)=[aA T1,aA T2]:=by
  show[aA (bs (aV f.t)),aA (bs (aV g.t))]=_;rw[HT1.out,MP.out]
 have hown:W4.ownsRow (w.heap.size+2) 24 1 (aB (some ⟨G,0,none⟩) 2 2) 2 (strs ([f.t,g.t].map aV)):=by rw[hxs];exact hown
 have mV:=zq (hown.alloc (aL #[aA FT,aA LT] 24));have Q1:=zq (q1.alloc (aL #[aA FT,aA LT] 24));have Q2:=zq (q2.alloc (aL #[aA FT,aA LT] 24));have Q3:=zq (bZ.new W4 #[aA FT,aA LT] 24);have wV:=zq (hB4.alloc hB4.size (aL #[aA FT,aA LT] 24));have hL2:w.heap.size+2≤W4.heap.size:=q2.lt;clear hxs hown q1 q2 hB4;go_wp2;obtain⟨LB,hLB⟩:∃G,W4.heap.size=G:=⟨_,rfl⟩;rw[hLB]at Q3 zn hL2⊢;clear hLB;go_loopw[51,6] (fun i c wr=>∃(k m gc cap:Nat)(C:List Rat),i=aF aG k∧k≤2∧c=aB (some ⟨gc,0,none⟩) m cap∧aY (C.length=m)∧2≤m∧m≤2+k∧gc≠LB∧
  aY (wr.ownsRow (w.heap.size+2) 24 1 (aB (some ⟨gc,0,none⟩) m cap) m (strs (C.map aV)))∧aY (Mr f g k C)∧aY (aJ w.heap.size w wr)∧
  aY (bZ wr w.heap.size #[aM f.up,aF aG f.co,aF aG f.dir,aA S1,aA T1] 44)∧aY (bZ wr (w.heap.size+1) #[aM f.up,aF aG g.co,aF aG g.dir,aA S2,aA T2] 44)∧
  aY (bZ wr LB #[aA FT,aA LT] 24)) (fun i _ _=>2-(aK i).toNat)
 case atStart=>exact⟨0,2,G,2,[f.t,g.t],rfl,by omega,rfl,rfl,by omega,by omega,by omega,mV.out,hL0.out,wV.out,Q1.out,Q2.out,Q3.out⟩
 case round=>
  clear mV Q1 Q2 Q3 wV hL0;obtain⟨k,m,gc,cap,C,rfl,hk,rfl,Hm,WI,hmk,hgc,mV,HC,HB,Q1,Q2,Q3⟩:=hrel;by_cases hlt:k<2
  ·have hz:=mp f g k;have HZ:aY (wr.cell? ⟨LB,k,none⟩=some (aA (bs (aV (zk f g k))))):=by
    show _=_;rw[Q3.out.cell];obtain rfl|rfl:k=0∨k=1:=by omega
    ·show some (aA FT)=_;rw[←HFT.out];rfl
    ·show some (aA LT)=_;rw[←HLT.out];rfl
   have sq:=Hf.out.t;have ZX:aY (HQ 30 (zk f g k)):=by
    show HQ 30 _;rcases hz with e|e
    ·rw[e];exact Hf.out.t
    ·rw[e];exact Hg.out.t
   have tq:=zq (mo Hf.out Hg.out hz);have My:=zq (Ti Hf.out Hg.out (zk f g k));have HS1:aY (f.high (zk f g k)-g.high (zk f g k)≠0→HQ 167 ((f.pos (zk f g k)-g.pos (zk f g k))/(f.high (zk f g k)-g.high (zk f g k)))∧HQ 198 (uA f g (zk f g k))):=fun h=>(step_HQ Hf.out Hg.out hz h).2;generalize hzz:zk f g k=z at *;have Hzz:=zq hzz;clear hzz sq hz;obtain⟨c0,c1,c2,c3,c4⟩:=Q1.out.front;obtain⟨d0,d1,d2,d3,d4⟩:=Q2.out.front;have l1:=Q1.out.lt;have l2:=Q2.out.lt;have hcz:=HZ.out;have Tv:HQ 198 z:=ZX.out.mono (by decide);have V4:=zq (fun(W:aE)(h:aJ wr.heap.size wr W)=>HPf.out z Tv W (HB.out.trans (h.mono HB.out.size)));have V5:=zq (fun(W:aE)(h:aJ wr.heap.size wr W)=>HPg.out z Tv W (HB.out.trans (h.mono HB.out.size)));have HDfz:=zq (fun(W:aE)(h:aJ wr.heap.size wr W)=>HDf.out z Tv true W (HB.out.trans (h.mono HB.out.size)));have HDgz:=zq (fun(W:aE)(h:aJ wr.heap.size wr W)=>HDg.out z Tv true W (HB.out.trans (h.mono HB.out.size)));have HSz:=zq (fun(W:aE)(h:aJ wr.heap.size wr W)=>C8 (Hf.out.hpos ZX.out) (Hg.out.hpos ZX.out) (by decide) W (ZD.out W (HB.out.trans (h.mono HB.out.size))));have HVz:=zq (fun(W:aE)(h:aJ wr.heap.size wr W)=>C8 (Hf.out.hhigh z) (Hg.out.hhigh z) (by decide) W (ZD.out W (HB.out.trans (h.mono HB.out.size))));clear Tv;obtain⟨ZT,ct⟩:∃S,bs (aV z)=S:=⟨_,rfl⟩;rw[ct]at V4 V5 HDfz HDgz hcz HZ;have HZT:=zq ct;clear ct;rw[Mt]at HDfz HDgz;obtain⟨GT,hGT⟩:∃S,bs (aV (f.pos z-g.pos z))=S:=⟨_,rfl⟩;obtain⟨VT,hVT⟩:∃S,bs (aV (f.high z-g.high z))=S:=⟨_,rfl⟩;have HGT:=zq hGT;have HVT:=zq hVT;rw[hGT]at HSz;rw[hVT]at HVz;clear hGT hVT;generalize bs (aV (f.pos z))=PF at *;generalize bs (aV (g.pos z))=PG at *;generalize bs (aV (f.high z))=DF at *;generalize bs (aV (g.high z))=DG at *;go_wp2;go_cut[11] (fun a W=>a=aA GT∧aY (aJ wr.heap.size wr W));case first =>
    go_region_held3 (fun w'=>(w'.cell? ⟨w.heap.size,0,none⟩=some (aM f.up)∧w'.cell? ⟨w.heap.size,1,none⟩=some (aF aG f.co)∧w'.cell? ⟨w.heap.size,2,none⟩=some (aF aG f.dir)∧w'.cell? ⟨w.heap.size,3,none⟩=some (aA S1)∧w'.cell? ⟨w.heap.size,4,none⟩=some (aA T1))∧(w'.cell? ⟨w.heap.size+1,0,none⟩=some (aM f.up)∧w'.cell? ⟨w.heap.size+1,1,none⟩=some (aF aG g.co)∧w'.cell? ⟨w.heap.size+1,2,none⟩=some (aF aG g.dir)∧w'.cell? ⟨w.heap.size+1,3,none⟩=some (aA S2)∧w'.cell? ⟨w.heap.size+1,4,none⟩=some (aA T2))) (go_keep)
     (first
      |(go_at_call 135;with_reducible refine(V4.out _ (by first |exact hBg1|exact(aI _ wr).drew)).mono ?_;rintro e w1 ⟨rfl,hb1⟩;have Tw:=aT (by first |exact hBg1|exact(aI _ wr).drew) hb1;have:=ck hb1 w.heap.size 0 (aM f.up);have:=ck hb1 w.heap.size 1 (aF aG f.co);have:=ck hb1 w.heap.size 2 (aF aG f.dir);have:=ck hb1 w.heap.size 3 (aA S1);have:=ck hb1 w.heap.size 4 (aA T1);have:=ck hb1 (w.heap.size+1) 0 (aM f.up);have:=ck hb1 (w.heap.size+1) 1 (aF aG g.co);have:=ck hb1 (w.heap.size+1) 2 (aF aG g.dir);have:=ck hb1 (w.heap.size+1) 3 (aA S2);have:=ck hb1 (w.heap.size+1) 4 (aA T2))
      |(go_at_call 135;with_reducible refine(V5.out _ (by first |exact Tw|exact(aI _ wr).drew)).mono ?_;rintro e w1 ⟨rfl,hb1⟩;have hBg1:=aT (by first |exact Tw|exact(aI _ wr).drew) hb1;have:=ck hb1 w.heap.size 0 (aM f.up);have:=ck hb1 w.heap.size 1 (aF aG f.co);have:=ck hb1 w.heap.size 2 (aF aG f.dir);have:=ck hb1 w.heap.size 3 (aA S1);have:=ck hb1 w.heap.size 4 (aA T1);have:=ck hb1 (w.heap.size+1) 0 (aM f.up);have:=ck hb1 (w.heap.size+1) 1 (aF aG g.co);have:=ck hb1 (w.heap.size+1) 2 (aF aG g.dir);have:=ck hb1 (w.heap.size+1) 3 (aA S2);have:=ck hb1 (w.heap.size+1) 4 (aA T2))
      |(go_at_call 162;with_reducible refine(HSz.out _ (by first |exact hBg1|exact Tw)).mono ?_;rintro e w1 ⟨rfl,hb1⟩;have hBs1:=aT (by first |exact hBg1|exact Tw) hb1;have:=ck hb1 w.heap.size 0 (aM f.up);have:=ck hb1 w.heap.size 1 (aF aG f.co);have:=ck hb1 w.heap.size 2 (aF aG f.dir);have:=ck hb1 w.heap.size 3 (aA S1);have:=ck hb1 w.heap.size 4 (aA T1);have:=ck hb1 (w.heap.size+1) 0 (aM f.up);have:=ck hb1 (w.heap.size+1) 1 (aF aG g.co);have:=ck hb1 (w.heap.size+1) 2 (aF aG g.dir);have:=ck hb1 (w.heap.size+1) 3 (aA S2);have:=ck hb1 (w.heap.size+1) 4 (aA T2)))
    go_wp2;go_meet;case rel=>exact⟨rfl,hBs1⟩
   case rest=>
   obtain⟨rfl,pF⟩:=hcut;have c0:=bV pF.out c0;have c1:=bV pF.out c1;have c2:=bV pF.out c2;have c3:=bV pF.out c3;have c4:=bV pF.out c4;have d0:=bV pF.out d0;have d1:=bV pF.out d1;have d2:=bV pF.out d2;have d3:=bV pF.out d3;have d4:=bV pF.out d4;have l1:=bQ l1 pF.out.size;have l2:=bQ l2 pF.out.size;clear V4 V5 HSz hcz;go_wp2;go_cut[12] (fun a W=>a=aA VT∧aY (aJ wr.heap.size wr W));case first =>
    go_region_held3 (fun w'=>(w'.cell? ⟨w.heap.size,0,none⟩=some (aM f.up)∧w'.cell? ⟨w.heap.size,1,none⟩=some (aF aG f.co)∧w'.cell? ⟨w.heap.size,2,none⟩=some (aF aG f.dir)∧w'.cell? ⟨w.heap.size,3,none⟩=some (aA S1)∧w'.cell? ⟨w.heap.size,4,none⟩=some (aA T1))∧(w'.cell? ⟨w.heap.size+1,0,none⟩=some (aM f.up)∧w'.cell? ⟨w.heap.size+1,1,none⟩=some (aF aG g.co)∧w'.cell? ⟨w.heap.size+1,2,none⟩=some (aF aG g.dir)∧w'.cell? ⟨w.heap.size+1,3,none⟩=some (aA S2)∧w'.cell? ⟨w.heap.size+1,4,none⟩=some (aA T2))) (go_keep)
     (first
      |(go_at_call 163;with_reducible refine(HDfz.out _ (by first |exact hBg2|exact pF.out.drew)).mono ?_;rintro e w1 ⟨rfl,hb1⟩;have hBf2:=aT (by first |exact hBg2|exact pF.out.drew) hb1;have:=ck hb1 w.heap.size 0 (aM f.up);have:=ck hb1 w.heap.size 1 (aF aG f.co);have:=ck hb1 w.heap.size 2 (aF aG f.dir);have:=ck hb1 w.heap.size 3 (aA S1);have:=ck hb1 w.heap.size 4 (aA T1);have:=ck hb1 (w.heap.size+1) 0 (aM f.up);have:=ck hb1 (w.heap.size+1) 1 (aF aG g.co);have:=ck hb1 (w.heap.size+1) 2 (aF aG g.dir);have:=ck hb1 (w.heap.size+1) 3 (aA S2);have:=ck hb1 (w.heap.size+1) 4 (aA T2))
      |(go_at_call 163;with_reducible refine(HDgz.out _ (by first |exact hBf2|exact pF.out.drew)).mono ?_;rintro e w1 ⟨rfl,hb1⟩;have hBg2:=aT (by first |exact hBf2|exact pF.out.drew) hb1;have:=ck hb1 w.heap.size 0 (aM f.up);have:=ck hb1 w.heap.size 1 (aF aG f.co);have:=ck hb1 w.heap.size 2 (aF aG f.dir);have:=ck hb1 w.heap.size 3 (aA S1);have:=ck hb1 w.heap.size 4 (aA T1);have:=ck hb1 (w.heap.size+1) 0 (aM f.up);have:=ck hb1 (w.heap.size+1) 1 (aF aG g.co);have:=ck hb1 (w.heap.size+1) 2 (aF aG g.dir);have:=ck hb1 (w.heap.size+1) 3 (aA S2);have:=ck hb1 (w.heap.size+1) 4 (aA T2))
      |(go_at_call 162;with_reducible refine(HVz.out _ (by first |exact hBg2|exact hBf2)).mono ?_;rintro e w1 ⟨rfl,hb1⟩;have hBs2:=aT (by first |exact hBg2|exact hBf2) hb1;have:=ck hb1 w.heap.size 0 (aM f.up);have:=ck hb1 w.heap.size 1 (aF aG f.co);have:=ck hb1 w.heap.size 2 (aF aG f.dir);have:=ck hb1 w.heap.size 3 (aA S1);have:=ck hb1 w.heap.size 4 (aA T1);have:=ck hb1 (w.heap.size+1) 0 (aM f.up);have:=ck hb1 (w.heap.size+1) 1 (aF aG g.co);have:=ck hb1 (w.heap.size+1) 2 (aF aG g.dir);have:=ck hb1 (w.heap.size+1) 3 (aA S2);have:=ck hb1 (w.heap.size+1) 4 (aA T2)))
    go_wp2;go_meet;case rel=>exact⟨rfl,hBs2⟩
   case rest=>
   obtain⟨rfl,JO⟩:=hcut;clear HDfz HDgz HVz c0 c1 c2 c3 c4 d0 d1 d2 d3 d4 l1 l2;have Mh:aY (uA f g z=z-(f.pos z-g.pos z)/(f.high z-g.high z)):=rfl;have UA:aY (okR f g z↔(f.high z-g.high z≠0∧z<uA f g z)):=Iff.rfl;have HGo:aY (Tf f g k↔(okR f g z∧(k=1∨uA f g z<kP f g))):=by
    show _↔_;rw[←Hzz.out];exact Iff.rfl
   by_cases hv0:f.high z-g.high z=0
   ·have mc:aY (¬Tf f g k):=fun h=>(UA.out.1 (HGo.out.1 h).1).1 hv0;have hvt:(VT.toList==[48])=true:=by rw[←HVT.out,Mq];exact decide_eq_true hv0
    clear hv0;go_wp2;go_roundw;case rel=>exact⟨k+1,m,gc,cap,C,by go_num,by omega,rfl,Hm,WI,by omega,hgc,cT mV.out JO.out,Ms HC.out mc.out,HB.out.trans (JO.out.mono HB.out.size),Q1.out.below JO.out Q1.out.lt,Q2.out.below JO.out Q2.out.lt,Q3.out.below JO.out Q3.out.lt⟩
    case measure=>simp only[aK];omega
   ·have hvt:(VT.toList==[48])=false:=by rw[←HVT.out,Mq];exact decide_eq_false hv0
    have HV0:=zq hv0;have HDv:=zq (fun(W:aE)(h:aJ wr.heap.size wr W)=>jx tq.out My.out (by decide) hv0 W (ZD.out W (HB.out.trans (h.mono HB.out.size))));have HSv:=zq (fun(W:aE)(h:aJ wr.heap.size wr W)=>C8 ZX.out (HS1.out hv0).1 (by decide) W (ZD.out W (HB.out.trans (h.mono HB.out.size))));have HXQ:=zq (HS1.out hv0).2;have hxe:aY (uA f g z=z-(f.pos z-g.pos z)/(f.high z-g.high z)):=rfl;have oh:=zq (fun(W:aE)(h:aJ wr.heap.size wr W)=>tZ HXQ.out ZX.out (by decide) W (ZD.out W (HB.out.trans (h.mono HB.out.size))));have HLQ:aY (HQ 30 (kP f g)):=by
     show HQ 30 _;rcases(VS f g).2 with e|e
     ·rw[e];exact Hf.out.t
     ·rw[e];exact Hg.out.t
    have Tc:=zq (fun(W:aE)(h:aJ wr.heap.size wr W)=>tZ HXQ.out HLQ.out (by decide) W (ZD.out W (HB.out.trans (h.mono HB.out.size))));rw[←hxe.out]at HSv;have HX:aY (∃x,uA f g z=x):=⟨_,rfl⟩;obtain⟨x,hx⟩:=HX.out;rw[HLT.out]at Tc;rw[HZT.out]at HSv oh;rw[hx]at HSv HXQ oh Tc;rw[HGT.out,HVT.out]at HDv;have Hx:=zq hx;have K1:aY (z<x→mJ x z=1):=Td;have K2:aY (¬z<x→mJ x z= -1∨mJ x z=0):=Te;have K3:aY (x<kP f g→mJ x (kP f g)= -1):=cmpR_m1;have K4:aY (¬x<kP f g→mJ x (kP f g)=0∨mJ x (kP f g)=1):=ZI;clear hv0 hx HX hxe Mh UA HGo My tq HS1;generalize mJ x z=ca at *;generalize mJ x (kP f g)=cb at *;obtain⟨XT,hXT⟩:∃S,bs (aV x)=S:=⟨_,rfl⟩;rw[hXT]at HSv oh Tc;have HXT:=zq hXT;clear hXT;obtain⟨b,hb⟩:=P3 (Tf f g k);have Hb:=zq hb;clear hb;go_wp2_with fail
    with_reducible refine(HDv.out _ JO.out).mono ?_
    rintro e W8⟨rfl,hb8⟩;have te:=aT JO.out hb8;go_wp2_with fail
    with_reducible refine(HSv.out _ te).mono ?_
    rintro e W9⟨rfl,QM⟩;have V6:=zq (aT te QM);clear hb8 QM te HDv HSv;go_upto_region 16 with fail
    go_cut[90] (fun v W=>v=aM b∧aY (aJ wr.heap.size wr W));case first =>
     by_cases hzx:z<x
     ·have e1:=zq (K1.out hzx);obtain rfl:=e1.out;obtain rfl|rfl:k=0∨k=1:=by omega
      ·by_cases hxl:x<kP f g
       ·have e2:=zq (K3.out hxl);obtain rfl:=e2.out;have eb:aY (b=true):=Hb.out.2 (Th Hzz.out Hx.out HV0.out hzx (.inr hxl));obtain rfl:=eb.out;clear hzx hxl;go_wp2_with fail
        with_reducible refine(oh.out _ V6.out).mono ?_
        rintro e W10⟨rfl,Kb⟩;have Lh:=aT V6.out Kb;go_wp2_with fail
        with_reducible refine(Tc.out _ Lh).mono ?_
        rintro e W11⟨rfl,fh⟩;have hB11:=aT Lh fh;go_wp2;go_meet;case rel=>exact⟨rfl,hB11⟩
       ·have e2:=zq (K4.out hxl);have eb:aY (b=false):=by
         show _=_;have:¬b=true:=fun h=>by
          rcases(Hb.out.1 h).2 with h1|h1
          ·cases h1
          ·rw[Hzz.out,Hx.out]at h1;exact hxl h1
         simpa using this
        obtain rfl:=eb.out;clear hzx hxl;rcases e2.out with rfl|rfl;all_goals
         go_wp2_with fail
         with_reducible refine(oh.out _ V6.out).mono ?_
         rintro e W10⟨rfl,Kb⟩;have Lh:=aT V6.out Kb;go_wp2_with fail
         with_reducible refine(Tc.out _ Lh).mono ?_
         rintro e W11⟨rfl,fh⟩;have hB11:=aT Lh fh;go_wp2;go_meet;case rel=>exact⟨rfl,hB11⟩
      ·have eb:aY (b=true):=Hb.out.2 (Th Hzz.out Hx.out HV0.out hzx (.inl rfl));obtain rfl:=eb.out;clear hzx;go_wp2_with fail
       with_reducible refine(oh.out _ V6.out).mono ?_
       rintro e W10⟨rfl,Kb⟩;have Lh:=aT V6.out Kb;go_wp2;go_meet;case rel=>exact⟨rfl,Lh⟩
     ·have e1:=zq (K2.out hzx);have eb:aY (b=false):=by
       show _=_;have:¬b=true:=fun h=>goes_no Hzz.out Hx.out hzx (Hb.out.1 h);simpa using this
      obtain rfl:=eb.out;clear hzx;rcases e1.out with rfl|rfl;all_goals
       go_wp2_with fail
       with_reducible refine(oh.out _ V6.out).mono ?_
       rintro e W10⟨rfl,Kb⟩;have Lh:=aT V6.out Kb;go_wp2;go_meet;case rel=>exact⟨rfl,Lh⟩
    case rest=>
    obtain⟨rfl,G4⟩:=hcut;clear oh Tc K1 K2 K3 K4;cases b with
    |false=>
     have mc:aY (¬Tf f g k):=fun h=>by have:=Hb.out.2 h;cases this
     go_wp2;go_roundw;case rel=>exact⟨k+1,m,gc,cap,C,by go_num,by omega,rfl,Hm,WI,by omega,hgc,cT mV.out G4.out,Ms HC.out mc.out,HB.out.trans (G4.out.mono HB.out.size),Q1.out.below G4.out Q1.out.lt,Q2.out.below G4.out Q2.out.lt,Q3.out.below G4.out Q3.out.lt⟩
     case measure=>simp only[aK];omega
    |true=>
     have hown:=cT mV.out G4.out;have uN:w.heap.size+2≤wc.heap.size:=cC (cC (by omega) (Nat.le_of_lt Q3.out.lt)) G4.out.size;go_wp2_with (at_builtin;refine DS rfl _ _ rfl (w.heap.size+2) _ _ _ rfl hown _ rfl (by omega) uN ?_;intro g1 wU w1 eF hg1 gH)
     have B11:=zq (dB (HB.out.trans (G4.out.mono HB.out.size)) gH hown (by omega) (by omega));have Q1':=zq ((Q1.out.below G4.out Q1.out.lt).grown gH (kS hown (by omega)));have Q2':=zq ((Q2.out.below G4.out Q2.out.lt).grown gH (kS hown (by omega)));have Q3':=zq ((Q3.out.below G4.out Q3.out.lt).grown gH (fun e=>hgc (vI e).symm));have HC':=zq (ZJ HC.out (by rw[Hzz.out,Hx.out];exact HXQ.out));rw[Hzz.out,Hx.out]at HC';have Hown1:aY (w1.ownsRow (w.heap.size+2) 24 1 (aB (some ⟨g1,0,none⟩) (m+1) wU) (m+1) (strs ((C++[x]).map aV))):=by
      show World.ownsRow _ _ _ _ _ _ _;have:strs ((C++[x]).map aV)=strs (C.map aV)++[aA XT]:=by simp[strs,HXT.out]
      rw[this];exact eF
     have hg:g1≠LB:=VQ eF Q3'.out (by simp;omega);clear hown eF gH;go_wp2;go_roundw;case rel=>exact⟨k+1,m+1,g1,wU,C++[x],by go_num,by omega,rfl,by show _=_;rw[cU,Hm.out];rfl,by omega,by omega,hg,Hown1,HC',B11,Q1',Q2',Q3'⟩
     case measure=>simp only[aK];omega
  ·obtain rfl:k=2:=by omega
   clear hlt hk;have Hread:=zq (rW.own mV.out);have ud:=zq (And.intro HC.out.2.1 (fun z(h:eU f g z)=>ZK HC.out h));clear mV HC;rename aE=>wq;have hB:=(aI _ wq).alloc (aD _) (aL #[] 24);go_wp2;go_loopw[15,14] (fun i o W=>∃(k n b cap:Nat)(O:List Rat),i=aF aG k∧k≤m∧o=aB (some ⟨b,0,none⟩) n cap∧aY (O.length=n)∧n≤k∧n≤cap∧cap≤9223372036854775807∧
    aY (rW W (some ⟨b,0,none⟩) (strs (O.map aV)))∧aY (JQ f g C k O)∧aY (aJ wq.heap.size wq W)) (fun i _ _=>m-(aK i).toNat)
   case atStart=>exact⟨0,0,wq.heap.size,0,[],rfl,by omega,rfl,rfl,by omega,by omega,by omega,rW.nil _ _,⟨fun z hz=>absurd hz (by simp),fun j hj=>absurd hj (by omega)⟩,hB⟩
   case round=>
    clear hB;obtain⟨k,n,b,cap,O,rfl,hk,rfl,Hn,hnk,hnc,MB,HO,H2,rO⟩:=hrel;by_cases hlt:k<m
    ·have hkC:k<C.length:=by rw[Hm.out];exact hlt
     have uY:C.getD k 0∈C:=by simp[aN,hkC]
     have hc:wr.cell? ⟨gc,k,none⟩=some (aA (bs (aV (C.getD k 0)))):=by
      have h1:=(Hread.out.below rO.out).cell (i:=k) (by simp[strs];exact hkC);rw[gL]at h1;rw[h1];simp[strs,aN,hkC]
     have ZX:=zq (ud.out.1 _ uY);have HzC:=zq uY;have Hkp:aY (∀O,JQ f g C k O→(eU f g (C.getD k 0)→C.getD k 0∈O)→JQ f g C (k+1) O):=fun O h1 h2=>VR h1 h2;have Hpt:aY (∀a,eU f g (C.getD k 0)→JQ f g C (k+1) (O.take a++[C.getD k 0]++O.drop a)):=fun a h=>ZL H2.out h HzC.out a;clear uY hkC;generalize C.getD k 0=z at *;have V4:=zq (fun(W:aE)(h:aJ wr.heap.size wr W)=>HPf.out z ZX.out W (HB.out.trans ((rO.out.trans (h.mono rO.out.size)).mono HB.out.size)));have V5:=zq (fun(W:aE)(h:aJ wr.heap.size wr W)=>HPg.out z ZX.out W (HB.out.trans ((rO.out.trans (h.mono rO.out.size)).mono HB.out.size)));have Fb:=zq (fun(W:aE)(h:aJ wr.heap.size wr W)=>HDf.out z ZX.out true W (HB.out.trans ((rO.out.trans (h.mono rO.out.size)).mono HB.out.size)));have Ew:=zq (fun(W:aE)(h:aJ wr.heap.size wr W)=>HDg.out z ZX.out true W (HB.out.trans ((rO.out.trans (h.mono rO.out.size)).mono HB.out.size)));have HD3:=zq (fun(W:aE)(h:aJ wr.heap.size wr W)=>HDf.out z ZX.out false W (HB.out.trans ((rO.out.trans (h.mono rO.out.size)).mono HB.out.size)));have HD4:=zq (fun(W:aE)(h:aJ wr.heap.size wr W)=>HDg.out z ZX.out false W (HB.out.trans ((rO.out.trans (h.mono rO.out.size)).mono HB.out.size)));have HK:=zq (fun(j:Nat)(W:aE)(h:aJ wr.heap.size wr W)=>C7 (bs ((O.map aV).getD j [])) (bs (aV z)) W (ZD.out W (HB.out.trans ((rO.out.trans (h.mono rO.out.size)).mono HB.out.size))));rw[Mt]at Fb Ew;rw[Tg]at HD3 HD4;have E1:=zq (JP (f.pos z) (g.pos z));have E2:=zq (JP (f.high z) (g.high z));have E3:=zq (JP (f.low z) (g.low z));have HMt:aY (eU f g z↔(f.pos z=g.pos z∧(f.low z≠g.low z∨f.high z≠g.high z))):=Iff.rfl;generalize bs (aV (f.pos z))=PF at *;generalize bs (aV (g.pos z))=PG at *;generalize bs (aV (f.high z))=DF at *;generalize bs (aV (g.high z))=DG at *;generalize bs (aV (f.low z))=LF at *;generalize bs (aV (g.low z))=LG at *;have HZe:=zq (Mq z);have HZE:=zq (fun y=>JP y z);obtain⟨ZT,ct⟩:∃S,bs (aV z)=S:=⟨_,rfl⟩;rw[ct]at V4 V5 Fb Ew HD3 HD4 HK hc HZE;have HZT:=zq ct;clear ct HZe;obtain⟨c0,c1,c2,c3,c4⟩:=((Q1.out.below rO.out Q1.out.lt).front);obtain⟨d0,d1,d2,d3,d4⟩:=((Q2.out.below rO.out Q2.out.lt).front);have l1:=(Q1.out.below rO.out Q1.out.lt).lt;have l2:=(Q2.out.below rO.out Q2.out.lt).lt;obtain⟨bp,hbp⟩:∃b,(!(PF.toList==PG.toList))=b:=⟨_,rfl⟩;have Hbp:=zq hbp;clear hbp;go_wp2;go_cut[113] (fun v W=>v=aM bp∧aY (aJ wr.heap.size wr W));case first =>
      go_region_held3 (fun w'=>(w'.cell? ⟨w.heap.size,0,none⟩=some (aM f.up)∧w'.cell? ⟨w.heap.size,1,none⟩=some (aF aG f.co)∧w'.cell? ⟨w.heap.size,2,none⟩=some (aF aG f.dir)∧w'.cell? ⟨w.heap.size,3,none⟩=some (aA S1)∧w'.cell? ⟨w.heap.size,4,none⟩=some (aA T1))∧(w'.cell? ⟨w.heap.size+1,0,none⟩=some (aM f.up)∧w'.cell? ⟨w.heap.size+1,1,none⟩=some (aF aG g.co)∧w'.cell? ⟨w.heap.size+1,2,none⟩=some (aF aG g.dir)∧w'.cell? ⟨w.heap.size+1,3,none⟩=some (aA S2)∧w'.cell? ⟨w.heap.size+1,4,none⟩=some (aA T2))) (go_keep)
       (first
        |(go_at_call 135;with_reducible refine(V4.out _ (by first |exact hBg1|exact(aI _ wr).drew)).mono ?_;rintro e w1 ⟨rfl,hb1⟩;have Tw:=aT (by first |exact hBg1|exact(aI _ wr).drew) hb1;have:=ck hb1 w.heap.size 0 (aM f.up);have:=ck hb1 w.heap.size 1 (aF aG f.co);have:=ck hb1 w.heap.size 2 (aF aG f.dir);have:=ck hb1 w.heap.size 3 (aA S1);have:=ck hb1 w.heap.size 4 (aA T1);have:=ck hb1 (w.heap.size+1) 0 (aM f.up);have:=ck hb1 (w.heap.size+1) 1 (aF aG g.co);have:=ck hb1 (w.heap.size+1) 2 (aF aG g.dir);have:=ck hb1 (w.heap.size+1) 3 (aA S2);have:=ck hb1 (w.heap.size+1) 4 (aA T2))
        |(go_at_call 135;with_reducible refine(V5.out _ (by first |exact Tw|exact(aI _ wr).drew)).mono ?_;rintro e w1 ⟨rfl,hb1⟩;have hBg1:=aT (by first |exact Tw|exact(aI _ wr).drew) hb1;have:=ck hb1 w.heap.size 0 (aM f.up);have:=ck hb1 w.heap.size 1 (aF aG f.co);have:=ck hb1 w.heap.size 2 (aF aG f.dir);have:=ck hb1 w.heap.size 3 (aA S1);have:=ck hb1 w.heap.size 4 (aA T1);have:=ck hb1 (w.heap.size+1) 0 (aM f.up);have:=ck hb1 (w.heap.size+1) 1 (aF aG g.co);have:=ck hb1 (w.heap.size+1) 2 (aF aG g.dir);have:=ck hb1 (w.heap.size+1) 3 (aA S2);have:=ck hb1 (w.heap.size+1) 4 (aA T2)))
      all_goals
       go_wp2;go_meet;case rel=>exact⟨by rw[←Hbp.out],by first |exact hBg1|exact Tw⟩
     case rest=>
     obtain⟨rfl,pF⟩:=hcut;clear V4 V5;cases bp with
     |false=>
      have HP:aY (f.pos z=g.pos z):=by
       show f.pos z=g.pos z;have h:=Hbp.out;rw[E1.out,Bool.not_eq_false']at h;exact of_decide_eq_true h
      have c0:=bV pF.out c0;have c1:=bV pF.out c1;have c2:=bV pF.out c2;have c3:=bV pF.out c3;have c4:=bV pF.out c4;have d0:=bV pF.out d0;have d1:=bV pF.out d1;have d2:=bV pF.out d2;have d3:=bV pF.out d3;have d4:=bV pF.out d4;have l1:=bQ l1 pF.out.size;have l2:=bQ l2 pF.out.size;obtain⟨bq,hbq⟩:=P3 (f.high z=g.high z∧f.low z=g.low z);have Hbq:=zq hbq;clear hbq hc;go_wp2;go_cut[129] (fun v W=>v=aM bq∧aY (aJ wr.heap.size wr W));case first =>
       by_cases hh:f.high z=g.high z
       ·have hd:(DF.toList==DG.toList)=true:=by rw[E2.out];exact decide_eq_true hh
        have Hh:aY ((LF.toList==LG.toList)=bq):=by
         show _=_;rw[E3.out,EK,decide_eq_true_iff,Hbq.out];exact⟨fun h=>⟨hh,h⟩,fun h=>h.2⟩
        clear hh;go_region_held3 (fun w'=>(w'.cell? ⟨w.heap.size,0,none⟩=some (aM f.up)∧w'.cell? ⟨w.heap.size,1,none⟩=some (aF aG f.co)∧w'.cell? ⟨w.heap.size,2,none⟩=some (aF aG f.dir)∧w'.cell? ⟨w.heap.size,3,none⟩=some (aA S1)∧w'.cell? ⟨w.heap.size,4,none⟩=some (aA T1))∧(w'.cell? ⟨w.heap.size+1,0,none⟩=some (aM f.up)∧w'.cell? ⟨w.heap.size+1,1,none⟩=some (aF aG g.co)∧w'.cell? ⟨w.heap.size+1,2,none⟩=some (aF aG g.dir)∧w'.cell? ⟨w.heap.size+1,3,none⟩=some (aA S2)∧w'.cell? ⟨w.heap.size+1,4,none⟩=some (aA T2))) (go_keep)
         (first
          |(go_at_call 163;with_reducible refine(Fb.out _ (by first |exact hBd2|exact hBd3|exact hBd4|exact pF.out.drew)).mono ?_;rintro e w1 ⟨rfl,hb1⟩;have IM:=aT (by first |exact hBd2|exact hBd3|exact hBd4|exact pF.out.drew) hb1;have:=ck hb1 w.heap.size 0 (aM f.up);have:=ck hb1 w.heap.size 1 (aF aG f.co);have:=ck hb1 w.heap.size 2 (aF aG f.dir);have:=ck hb1 w.heap.size 3 (aA S1);have:=ck hb1 w.heap.size 4 (aA T1);have:=ck hb1 (w.heap.size+1) 0 (aM f.up);have:=ck hb1 (w.heap.size+1) 1 (aF aG g.co);have:=ck hb1 (w.heap.size+1) 2 (aF aG g.dir);have:=ck hb1 (w.heap.size+1) 3 (aA S2);have:=ck hb1 (w.heap.size+1) 4 (aA T2))
          |(go_at_call 163;with_reducible refine(Ew.out _ (by first |exact IM|exact hBd3|exact hBd4|exact pF.out.drew)).mono ?_;rintro e w1 ⟨rfl,hb1⟩;have hBd2:=aT (by first |exact IM|exact hBd3|exact hBd4|exact pF.out.drew) hb1;have:=ck hb1 w.heap.size 0 (aM f.up);have:=ck hb1 w.heap.size 1 (aF aG f.co);have:=ck hb1 w.heap.size 2 (aF aG f.dir);have:=ck hb1 w.heap.size 3 (aA S1);have:=ck hb1 w.heap.size 4 (aA T1);have:=ck hb1 (w.heap.size+1) 0 (aM f.up);have:=ck hb1 (w.heap.size+1) 1 (aF aG g.co);have:=ck hb1 (w.heap.size+1) 2 (aF aG g.dir);have:=ck hb1 (w.heap.size+1) 3 (aA S2);have:=ck hb1 (w.heap.size+1) 4 (aA T2))
          |(go_at_call 163;with_reducible refine(HD3.out _ (by first |exact IM|exact hBd2|exact hBd4|exact pF.out.drew)).mono ?_;rintro e w1 ⟨rfl,hb1⟩;have hBd3:=aT (by first |exact IM|exact hBd2|exact hBd4|exact pF.out.drew) hb1;have:=ck hb1 w.heap.size 0 (aM f.up);have:=ck hb1 w.heap.size 1 (aF aG f.co);have:=ck hb1 w.heap.size 2 (aF aG f.dir);have:=ck hb1 w.heap.size 3 (aA S1);have:=ck hb1 w.heap.size 4 (aA T1);have:=ck hb1 (w.heap.size+1) 0 (aM f.up);have:=ck hb1 (w.heap.size+1) 1 (aF aG g.co);have:=ck hb1 (w.heap.size+1) 2 (aF aG g.dir);have:=ck hb1 (w.heap.size+1) 3 (aA S2);have:=ck hb1 (w.heap.size+1) 4 (aA T2))
          |(go_at_call 163;with_reducible refine(HD4.out _ (by first |exact IM|exact hBd2|exact hBd3|exact pF.out.drew)).mono ?_;rintro e w1 ⟨rfl,hb1⟩;have hBd4:=aT (by first |exact IM|exact hBd2|exact hBd3|exact pF.out.drew) hb1;have:=ck hb1 w.heap.size 0 (aM f.up);have:=ck hb1 w.heap.size 1 (aF aG f.co);have:=ck hb1 w.heap.size 2 (aF aG f.dir);have:=ck hb1 w.heap.size 3 (aA S1);have:=ck hb1 w.heap.size 4 (aA T1);have:=ck hb1 (w.heap.size+1) 0 (aM f.up);have:=ck hb1 (w.heap.size+1) 1 (aF aG g.co);have:=ck hb1 (w.heap.size+1) 2 (aF aG g.dir);have:=ck hb1 (w.heap.size+1) 3 (aA S2);have:=ck hb1 (w.heap.size+1) 4 (aA T2)))
        all_goals
         go_wp2;go_meet;case rel=>exact⟨by rw[Hh.out],by first |exact IM|exact hBd2|exact hBd3|exact hBd4⟩
       ·have hd:(DF.toList==DG.toList)=false:=by rw[E2.out];exact decide_eq_false hh
        have Hh:aY (bq=false):=by
         show _=_;cases bq
         ·rfl
         ·exact absurd (Hbq.out.1 rfl).1 hh
        clear hh;refine wp_region_held_drew (S:=fun w'=>(w'.cell? ⟨w.heap.size,0,none⟩=some (aM f.up)∧w'.cell? ⟨w.heap.size,1,none⟩=some (aF aG f.co)∧w'.cell? ⟨w.heap.size,2,none⟩=some (aF aG f.dir)∧w'.cell? ⟨w.heap.size,3,none⟩=some (aA S1)∧w'.cell? ⟨w.heap.size,4,none⟩=some (aA T1))∧(w'.cell? ⟨w.heap.size+1,0,none⟩=some (aM f.up)∧w'.cell? ⟨w.heap.size+1,1,none⟩=some (aF aG g.co)∧w'.cell? ⟨w.heap.size+1,2,none⟩=some (aF aG g.dir)∧w'.cell? ⟨w.heap.size+1,3,none⟩=some (aA S2)∧w'.cell? ⟨w.heap.size+1,4,none⟩=some (aA T2))) (by kernel_rfl) ?_ (fun wF=>?_)
        ·(try dsimp only);go_keep
        refine tH 0 rfl ?_;refine tH 1 rfl ?_;refine tH 3 rfl ?_;refine tH 4 rfl ?_;try simp only[eC,bC,bA,aZ,aU,bK,bG]
        refine xY (rs:=[2]) (by kernel_rfl) (by simp) ?_;refine mH rfl (fun K hK=>?_) nG;go_simp;with_reducible refine(Fb.out _ pF.out.drew).mono ?_
        rintro e w1⟨rfl,hb1⟩;have IM:=aT pF.out.drew hb1;have:=ck hb1 w.heap.size 0 (aM f.up);have:=ck hb1 w.heap.size 1 (aF aG f.co);have:=ck hb1 w.heap.size 2 (aF aG f.dir);have:=ck hb1 w.heap.size 3 (aA S1);have:=ck hb1 w.heap.size 4 (aA T1);have:=ck hb1 (w.heap.size+1) 0 (aM f.up);have:=ck hb1 (w.heap.size+1) 1 (aF aG g.co);have:=ck hb1 (w.heap.size+1) 2 (aF aG g.dir);have:=ck hb1 (w.heap.size+1) 3 (aA S2);have:=ck hb1 (w.heap.size+1) 4 (aA T2);show K _ _;refine hK.out _ _ ?_ (fun wF=>?_)
        ·(try dsimp only);go_keep
        clear hK K;try simp only[eC,bC,bA,aZ,aU,bK,bG]
        refine xY (rs:=[5]) (by kernel_rfl) (by simp) ?_;refine mH rfl (fun K hK=>?_) nG;go_simp;with_reducible refine(Ew.out _ IM).mono ?_
        rintro e w2⟨rfl,hb2⟩;have hBd2:=aT IM hb2;have:=ck hb2 w.heap.size 0 (aM f.up);have:=ck hb2 w.heap.size 1 (aF aG f.co);have:=ck hb2 w.heap.size 2 (aF aG f.dir);have:=ck hb2 w.heap.size 3 (aA S1);have:=ck hb2 w.heap.size 4 (aA T1);have:=ck hb2 (w.heap.size+1) 0 (aM f.up);have:=ck hb2 (w.heap.size+1) 1 (aF aG g.co);have:=ck hb2 (w.heap.size+1) 2 (aF aG g.dir);have:=ck hb2 (w.heap.size+1) 3 (aA S2);have:=ck hb2 (w.heap.size+1) 4 (aA T2);show K _ _;refine hK.out _ _ ?_ (fun wF=>?_)
        ·(try dsimp only);go_keep
        clear hK K;refine tH 6 rfl ?_;refine tH 7 rfl ?_;refine sH 8 rfl ?_;refine sH 9 rfl ?_;refine sH 11 rfl ?_;refine sH 12 rfl ?_;refine sH 10 rfl ?_;refine sH 13 rfl ?_;refine sH 14 rfl ?_;refine tH 15 rfl ?_;try simp only[eC,bC,bA,aZ,aU,bK,bG]
        refine wpAnyH_done (by kernel_rfl) ?_ _;all_goals
         go_wp2;go_meet;case rel=>exact⟨by rw[Hh.out],by first |exact IM|exact hBd2⟩
      case rest=>
      obtain⟨rfl,JO⟩:=hcut;clear Fb Ew HD3 HD4 c0 c1 c2 c3 c4 d0 d1 d2 d3 d4 l1 l2;cases bq with
      |true=>
       have YF:aY (¬eU f g z):=fun h=>by
        have h1:=Hbq.out.1 rfl;rcases(HMt.out.1 h).2 with h2|h2
        ·exact h2 h1.2
        ·exact h2 h1.1
       go_wp2;go_roundw;case rel=>exact⟨k+1,n,b,cap,O,by go_num,by omega,rfl,Hn,by omega,hnc,MB,HO.out.below JO.out,Hkp.out O H2.out (fun h=>absurd h YF.out),aT rO.out JO.out⟩
       case measure=>simp only[aK];omega
      |false=>
       have Hm:aY (eU f g z):=HMt.out.2 ⟨HP.out,fZ fun h=>by
        have h1:f.high z=g.high z∧f.low z=g.low z:=⟨fZ fun q=>h (.inr q),fZ fun q=>h (.inl q)⟩;have h2:=Hbq.out.2 h1;cases h2⟩
       obtain⟨wz,rfl⟩:∃W,W=wr:=⟨_,rfl⟩;have HcO:aY (∀j,j<n→wz.cell? ⟨b,j,none⟩=some (aA (bs ((O.map aV).getD j [])))):=fun j hj=>by
        have h1:=HO.out.cell (i:=j) (by rw[lS,cG,Hn.out];exact hj);rw[gL]at h1;rw[h1,mR _ (by rw[cG,Hn.out];exact hj)]
       have HKj:aY (∀j,j<n→∀W,aJ wz.heap.size wz W→Calls aC 127 #[aA (bs ((O.map aV).getD j [])),aA ZT] W fun e w'=>(∃c:Int,e=aO (aF aG c))∧aJ W.heap.size W w'):=fun j hj W h=>by
        have hjO:j<O.length:=by rw[Hn.out];exact hj
        have e1:(O.map aV).getD j []=aV O[j]:=by simp[aN,hjO]
        refine(HK.out j W h (by rw[e1];exact mS (ud.out.1 _ (H2.out.1 _ (List.getElem_mem hjO)).2) (by decide)) (by rw[←HZT.out];exact mS ZX.out (by decide))).mono ?_;rintro e w'⟨h1,h2⟩;exact⟨⟨_,h1⟩,h2⟩
       clear HK;go_upto_block 4 with fail
       go_cut[17] (fun a W=>∃j:Nat,a=aF aG j∧j≤n∧aY (aJ wz.heap.size wz W));case first =>
        go_wp2_with fail
        go_loopw[17] (fun a W=>∃j:Nat,a=aF aG j∧j≤n∧aY (aJ wz.heap.size wz W)) (fun a _=>n-(aK a).toNat);case atStart=>exact⟨0,rfl,bR _,JO.out⟩
        case round=>
         obtain⟨j,rfl,hj,Ed⟩:=hrel;by_cases hjn:j<n
         ·have h0:=HcO.out j hjn;have hcj:=(Ed.out.cell (p:=⟨b,j,none⟩) (bF _ _ h0)).trans h0;have HKx:=zq (HKj.out j hjn);clear h0;generalize bs ((O.map aV).getD j [])=Y at *;go_wp2_with fail
          with_reducible refine(HKx.out _ Ed.out).mono ?_
          rintro e W8⟨⟨c,rfl⟩,hb8⟩;have te:=aT Ed.out hb8;by_cases hc:c<0
          ·go_wp2;go_roundw;case rel=>((repeat apply Exists.intro);refine⟨?_,rfl⟩;exact⟨j+1,by go_num,by omega,te⟩)
           case measure=>(show n-((j:Int)+1).toNat<n-(j:Int).toNat;omega)
          ·go_wp2;go_meet;case rel=>exact⟨j,rfl,hj,te⟩
         ·obtain rfl:j=n:=by omega
          go_wp2;go_meet;case rel=>exact⟨j,rfl,aD _,Ed.out⟩
       case rest=>
       obtain⟨j,rfl,hj,Ed⟩:=hcut;clear HKj;obtain⟨bz,hbz⟩:=P3 (j<n∧O.getD j 0=z);have Hbz:=zq hbz;clear hbz;go_upto_region 29 with fail
       go_cut[156] (fun v W=>v=aM bz∧aY (aJ wz.heap.size wz W));case first =>
        by_cases hjn:j<n
        ·have h0:=HcO.out j hjn;have hcj:=(Ed.out.cell (p:=⟨b,j,none⟩) (bF _ _ h0)).trans h0;have hjO:j<O.length:=by rw[Hn.out];exact hjn
         have e1:(O.map aV).getD j []=aV (O.getD j 0):=by simp[aN,hjO]
         have hE:=HZE.out (O.getD j 0);have eb:aY (bz=decide (O.getD j 0=z)):=by
          show _=_;rw[EK,decide_eq_true_iff,Hbz.out];exact⟨fun h=>h.2,fun h=>⟨hjn,h⟩⟩
         rw[e1]at hcj;clear h0 e1 hjO;generalize decide (O.getD j 0=z)=bt at *;generalize bs (aV (O.getD j 0))=Y at *;cases bt;all_goals
          go_wp2;go_meet;case rel=>exact⟨by rw[eb.out],Ed.out⟩
        ·have eb:aY (bz=false):=by
          show _=_;cases bz
          ·rfl
          ·exact absurd (Hbz.out.1 rfl).1 hjn
         go_wp2;go_meet;case rel=>exact⟨by rw[eb.out],Ed.out⟩
       case rest=>
       obtain⟨rfl,Ed⟩:=hcut;cases bz with
       |true=>
        have hin:aY (z∈O):=by
         show _∈_;obtain⟨h1,h2⟩:=Hbz.out.1 rfl;have hjO:j<O.length:=by rw[Hn.out];exact h1
         rw[←h2];simp[aN,hjO]
        go_wp2;go_roundw;case rel=>exact⟨k+1,n,b,cap,O,by go_num,by omega,rfl,Hn,by omega,hnc,MB,HO.out.below Ed.out,Hkp.out O H2.out (fun _=>hin.out),aT rO.out Ed.out⟩
        case measure=>simp only[aK];omega
       |false=>
        have xD:rW wc (some ⟨b,0,none⟩) (strs (O.map aV)):=HO.out.below Ed.out;have GU:(wc.alloc (aL #[] 24)).ownsRow wc.heap.size 24 1 (aB (some ⟨wc.heap.size,0,none⟩) 0 0) 0 []:=jJ wc #[] 0 (aD _) (bR _) rfl;have hlen1:((O.map aV).take j).length=j:=by rw[iW,cG,Hn.out];omega
        have hlen2:((O.map aV).drop j).length=n-j:=by rw[kK,cG,Hn.out]
        have hsp:strs (O.map aV)=strs ((O.map aV).take j)++strs ((O.map aV).drop j):=by
         unfold strs;rw[←List.map_append,List.take_append_drop]
        rw[hsp]at xD;have hBa:=(aI wc.heap.size wc).alloc (aD _) (aL #[] 24);have UV:=xD.front.below hBa;have vu:aY (j+1+(n-j)=n+1):=by show _=_;omega
        have Hrd:=zq xD;have Hl1:=zq hlen1;have Hl2:=zq hlen2;clear xD hlen1 hlen2 hsp;go_upto_region 31 with(at_builtin;refine SJ rfl _ _ rfl wc.heap.size _ _ _ _ rfl GU b 0 j _ ((O.map aV).take j) rfl Hl1.out UV (by omega) (by simp) ?_;intro g1 wU w1 eF hg1 gH)
        have gG:=dB hBa gH GU (aD _) (by simp);rw[gL,List.nil_append]at eF;go_upto_region 32 with(at_builtin;refine DS rfl _ _ rfl wc.heap.size _ _ _ rfl eF _ rfl (by omega) gG.size ?_;intro g2 cap2 w2 pD xz hgr2)
        have eQ:=dB gG hgr2 eF (aD _) gG.size;have hr3:rW w2 (some ⟨b,0+(strs ((O.map aV).take j)).length,none⟩) (strs ((O.map aV).drop j)):=(Hrd.out.below eQ).back;rw[lS,Hl1.out,gL]at hr3;have hr4:j=cap→rW w2 (some ⟨b,0,none⟩) (strs ((O.map aV).drop j)):=fun h i hi=>by
         rw[lS,Hl2.out]at hi;omega
        have Hw3:aY (∀m3,m3=n-j→∀g3 V7 w3,w3.ownsRow wc.heap.size 24 1 (aB (some ⟨g3,0,none⟩) (j+1+m3) V7) (j+1+m3) (strs ((O.map aV).take j)++[aA ZT]++strs ((O.map aV).drop j))→w2.grownBy w3 (some g2)→
         aY (rW w3 (some ⟨g3,0,none⟩) (strs ((O.take j++[z]++O.drop j).map aV)))∧n+1≤V7∧V7≤9223372036854775807∧aY (aJ wq.heap.size wq w3)):=fun m3 hm3 g3 V7 w3 h1 h2=>by
         have e:strs ((O.take j++[z]++O.drop j).map aV)=strs ((O.map aV).take j)++[aA ZT]++strs ((O.map aV).drop j):=by
          rw[←HZT.out];simp[strs,List.map_take,List.map_drop]
         have h3:=dJ h1;unfold maxLen at h3;refine⟨?_,by have:=vu.out;rw[hm3]at h3;omega,h3.2.2.2,?_⟩
         ·show rW _ _ _;rw[e];exact rW.own h1
         ·have fN:=dB eQ h2 pD (aD _) eQ.size;exact aT (aT rO.out Ed.out) fN
        have HlO:aY ((O.take j++[z]++O.drop j).length=n+1):=by
         show _=_;rw[cU,cU,iW,kK,Hn.out];simp only[List.length_cons,List.length_nil];omega
        obtain⟨o3,WV,hr5⟩:∃o3,(if cap=j then(some ⟨b,0,none⟩:Option Addr)else some ⟨b,j,none⟩)=some ⟨b,o3,none⟩∧rW w2 (some ⟨b,o3,none⟩) (strs ((O.map aV).drop j)):=by
         by_cases h:cap=j
         ·exact⟨0,ip h,hr4 h.symm⟩
         ·exact⟨j,iN h,hr3⟩
        clear hr3 hr4 UV hBa GU eF gH hgr2 gG;go_wp2_with (at_builtin;refine SJ rfl _ _ rfl wc.heap.size g2 cap2 (j+1) _ rfl pD b o3 (n-j) (cap-j) ((O.map aV).drop j) rfl Hl2.out hr5 (by omega) eQ.size ?_;intro g3 V7 w3 CF hg3 Vs)
        obtain⟨a1,a2,a3,a4⟩:=Hw3.out (n-j) rfl g3 V7 w3 CF Vs;clear WV hr5 CF pD Vs eQ;rw[vu.out];go_wp2;go_roundw;case rel=>((repeat apply Exists.intro);refine⟨?_,rfl⟩;exact⟨k+1,n+1,g3,V7,O.take j++[z]++O.drop j,by go_num,by omega,rfl,HlO,by omega,a2,a3,a1,Hpt.out j Hm.out,a4⟩)
        case measure=>(show m-((k:Int)+1).toNat<m-(k:Int).toNat;omega)
     |true=>
      have YF:aY (¬eU f g z):=fun h=>by
       have h1:=Hbp.out;rw[E1.out,(HMt.out.1 h).1,decide_eq_true rfl]at h1;cases h1
      go_wp2;go_roundw;case rel=>exact⟨k+1,n,b,cap,O,by go_num,by omega,rfl,Hn,by omega,hnc,MB,HO.out.below pF.out,Hkp.out O H2.out (fun h=>absurd h YF.out),aT rO.out pF.out⟩
      case measure=>simp only[aK];omega
    ·obtain rfl:m=k:=by omega
     have Hall:aY (∀z,eU f g z→z∈O):=fun z h=>by
      obtain⟨j,hj,rfl⟩:=List.getElem_of_mem (ud.out.2 z h);have e:C.getD j 0=C[j]:=by simp[aN,hj]
      have:=H2.out.2 j (by rw[←Hm.out];exact hj) (by rw[e];exact h);rwa[e]at this
     have ES:=zq (show(∃a n' F3,∃L:List Rat,aO (bO #[aB (some ⟨b,0,none⟩) n cap,aF aG 0])=aO (bO #[aB a n' F3,aF aG 0])∧L.length=n'∧n'≤1000∧rW wr a (strs (L.map aV))∧(∀z,z∈L↔eU f g z)∧∀z∈L,HQ 198 z)∧aJ w.heap.size w wr from
      ⟨⟨_,n,cap,O,rfl,Hn.out,by omega,HO.out,fun z=>⟨fun h=>(H2.out.1 z h).1,Hall.out z⟩,fun z h=>ud.out.1 z (H2.out.1 z h).2⟩,aT HB.out rO.out⟩)
     go_wp2;go_ret2;exact ES.out
end
end Go.Proofs.YtcimoodjlopdaaaGreatDoor
