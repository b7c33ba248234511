import Derived.BigRegion
import Derived.Test.YtcimoodjlopdaaaGreatDoorZ0
import Derived.Test.YtcimoodjlopdaaaGreatDoorZ22
import Derived.Test.YtcimoodjlopdaaaGreatDoorZ23
import Derived.Test.YtcimoodjlopdaaaGreatDoorZ24
namespace Go.Proofs.YtcimoodjlopdaaaGreatDoor
set_option maxRecDepth 100000
set_option maxHeartbeats 8000000
set_option linter.all false
open Go.Proofs.Tryz
open Go renaming World->aE,Calls->aQ,Value->bB,maxLen->cA,Addr->dE,Oper->A8,wpList->Dm,info_parts->OG
open Go.ByteArray renaming toList_eq->cI
open Go.Ending renaming returned->aO
open Go.IntKind renaming i64->aG
open Go.IntWalk renaming i64_in->aP
open Go.Obj renaming cells->aL
open Go.Proofs.Tryz renaming prog->aC
open Go.RowKit renaming Below->aJ,intOf->aK,Hid->aY
open Go.RowKit.Below renaming refl->aI
open Go.Value renaming string->aA,slice->aB,int->aF,bool->aM,tuple->bO,agg->dM,oneCell'->Nw
open Go.World renaming size_alloc->aS,block_lt_of_cell?->bF
open Go.World.ownsRow renaming cellAt->gJ
open List renaming getD_eq_getElem?_getD->aN,length_map->cG,length_append->cU,take_of_length_le->dH,map_append->qO,append_assoc->Ch
open Nat renaming le_refl->aD,zero_le->bR,le_trans->cC,lt_or_ge->fC,mod_lt->fW,zero_add->gL,not_lt_zero->Ib,le_succ->rq
section
open Go Go.RowKit Go.Lib
def ol(x z y:List UInt8):Bool:=decide ((gY x z).1<0)&&decide ((gY z y).1<0)
theorem MC(a b:Rat):decide (mJ a b<0)=decide (a<b):=by
 unfold mJ;by_cases h:a<b
 ·simp[h]
 ·by_cases k:b<a<;>simp[h,k]
theorem btw_T{x y:List UInt8}(hx:dR x=0)(hy:dR y=0){z:Rat}(hz:HQ 198 z):ol x (aV z) y=decide (cF x<z∧z<cF y):=by
 obtain⟨-,h1,e1⟩:=Aq hx;obtain⟨-,h2,e2⟩:=Aq hy;have a:=CQ h1 hz (by decide);have b:=CQ hz h2 (by decide);rw[e1]at a;rw[e2]at b;unfold ol;rw[a,b,MC,MC,Bool.decide_and]
theorem Tx(x z y:List UInt8)(w:aE)(hE:eZ w)(hx:x.length≤8000000)(hz:z.length≤8000000)(hy:y.length≤8000000):
 aQ aC 102 #[aA (bs x),aA (bs z),aA (bs y)] w (Rt (aM (ol x z y)) w):=by
 have H1:aY (aQ aC 48 #[aA (bs x),aA (bs z)] w (Rt (aF aG (gY x z).1) w)):=by
  have:=A0 (bs x) (bs z) w hE (by rw[bU];exact hx) (by rw[bU];exact hz);rwa[aX,aX]at this
 have H2:aY (∀W,aJ w.heap.size w W→aQ aC 48 #[aA (bs z),aA (bs y)] W (Rt (aF aG (gY z y).1) W)):=fun W hW=>by
  have:=A0 (bs z) (bs y) W (hE.below hW) (by rw[bU];exact hz) (by rw[bU];exact hy);rwa[aX,aX]at this
 have R:aY (ol x z y=(decide ((gY x z).1<0)&&decide ((gY z y).1<0))):=rfl;clear hE hx hz hy;generalize ol x z y=RR at *;generalize(gY x z).1=c1 at *;generalize(gY z y).1=c2 at *;generalize bs x=X at *;generalize bs z=Z at *;generalize bs y=Y at *;by_cases h1:c1<0
 ·have R:aY (RR=decide (c2<0)):=by show _=_;rw[R.out,decide_eq_true h1,Bool.true_and]
  go_enter func102,ntmps102;go_wp2_with fail
  refine ka H1.out fun W1 hb1=>?_;have fK:=zq hb1;clear hb1 H1;go_wp2_with fail
  refine kb (H2.out _ fK.out) fK.out fun W2 gD=>?_;go_wp2;go_ret;exact⟨by rw[R.out]<;>rfl,gD.out⟩
 ·have R:aY (RR=false):=by show _=_;rw[R.out,decide_eq_false h1,Bool.false_and]
  go_enter func102,ntmps102;go_wp2_with fail
  refine ka H1.out fun W1 hb1=>?_;have fK:=zq hb1;clear hb1 H1;go_wp2;go_ret;exact⟨by rw[R.out]<;>rfl,fK.out⟩
def NoB(fs:List Fr)(x y:List UInt8)(i:Nat):Prop:=∀i',i'<i→∀z,(QV fs i' z∨ui fs i' i' z)→¬(cF x<z∧z<cF y)
def cw(fs:List Fr)(x y:List UInt8)(i j:Nat):Prop:=∀z,ui fs i j z→¬(cF x<z∧z<cF y)
def Ty(fs:List Fr)(x y:List UInt8)(w:aE)(e:Ending)(w':aE):Prop:=(∃b:Bool,e=aO (aM b)∧(b=true↔Tl fs x y))∧aJ w.heap.size w w'
theorem NoB.all{fs:List Fr}{x y:List UInt8}(h:NoB fs x y fs.length):¬Tl fs x y:=by
 rintro⟨z,hz,h1⟩;obtain⟨i,hi,h2⟩:=P9.1 hz;exact h i hi z h2 h1
theorem NoB.next{fs:List Fr}{x y:List UInt8}{i:Nat}(h:NoB fs x y i)(hs:∀z,QV fs i z→¬(cF x<z∧z<cF y))(hj:cw fs x y i i):NoB fs x y (i+1):=by
 intro i' hi z hz;rcases fC i' i with c|c
 ·exact h i' c z hz
 ·obtain rfl:i'=i:=by omega
  exact hz.elim (hs z) (hj z)
theorem cw.next{fs:List Fr}{x y:List UInt8}{i j:Nat}(h:cw fs x y i j)(hj:∀z,((fs.getD j default).up=(fs.getD i default).up∧eU (fs.getD j default).q (fs.getD i default).q z)→¬(cF x<z∧z<cF y)):cw fs x y i (j+1):=by
 rintro z⟨k,hk,h1⟩;rcases fC k j with c|c
 ·exact h z ⟨k,c,h1⟩
 ·obtain rfl:k=j:=by omega
  exact hj z h1
theorem cw.zero{fs:List Fr}{x y:List UInt8}{i:Nat}:cw fs x y i 0:=fun _⟨_,h,_⟩=>absurd h (Ib _)
theorem ZY (a:Option dE) (nf ca:Nat) (fs:List Fr) (x y:List UInt8) (w:aE) (hE:eZ w) (hf:fs.length=nf) (hn:nf≤1000) (ZM:∀ f∈fs,f.Ok) (hx:dR x=0) (hy:dR y=0) (rf:wP w a fs) :
 aQ aC 49 #[aB a nf ca,aA (bs x),aA (bs y)] w (Ty fs x y w):=by
 have hxl:=DW hx;have Ct:=DW hy;have QL:aY (∀ i,i < nf→(fs.getD i default).Ok):=fun i hi=> ZM _ (cP (by rw [hf];exact hi) default);have HBt:aY (∀ z,HQ 198 z→∀ W,aJ w.heap.size w W→aQ aC 102 #[aA (bs x),aA (bs (aV z)),aA (bs y)] W (Rt (aM (decide (cF x < z∧z < cF y))) W)):=fun z hz W hW=> by
  have hs:=mS hz (by decide);rw [bU] at hs;have:=Tx x (aV z) y W (hE.below hW) hxl hs Ct;rwa [btw_T hx hy hz] at this
 have HEq:aY (∀ i j,i < nf→j < nf→(fs.getD j default).up=(fs.getD i default).up→∀ W,aJ w.heap.size w W→aQ aC 103 #[(fs.getD j default).v,(fs.getD i default).v] W fun e w' => (∃ a n cap,∃ L:List Rat,e=aO (bO #[aB a n cap,aF aG 0])∧L.length=n∧n≤1000∧rW w' a (strs (L.map aV))∧(∀ z,z∈L↔eU (fs.getD j default).q (fs.getD i default).q z)∧∀ z∈L,HQ 198 z)∧aJ W.heap.size W w'):=fun i j hi hj hup W hW=> by
  obtain⟨g1,e1⟩:=(QL.out i hi).good;obtain⟨g2,e2⟩:=(QL.out j hj).good;have:=ZW _ _ g2 g1 hup W (hE.below hW);rwa [e1,e2] at this
 have uP:aY (NoB fs x y nf→¬ Tl fs x y):=fun h=> NoB.all (by rw [hf];exact h);have VZ:aY (∀ i z,i < nf→(QV fs i z∨ui fs i i z)→cF x < z∧z < cF y→Tl fs x y):=fun i z hi h hb=> ⟨z,P9.2 ⟨i,by rw [hf];exact hi,h⟩,hb⟩;have Rf:=zq rf;have Hf:=zq hf;clear hE hf ZM hx hy rf hxl Ct;generalize bs x=X at *;generalize bs y=Y at *;go_enter func49,ntmps49;go_wp2;go_loopw [7] (fun i wr=> ∃ k:Nat,i=aF aG k∧k≤nf∧aY (aJ w.heap.size w wr)∧aY (NoB fs x y k)) (fun i _=> nf - (aK i).toNat);case atStart=> exact⟨0,rfl,bR _,aI _ _,fun i hi=> absurd hi (Ib _)⟩
 case round=>
  obtain⟨k,rfl,hk,HB,HN⟩:=hrel;by_cases hlt:k < nf
  ·obtain⟨fb,fo,rfl,c0,c1,c2,c3,c4⟩:=(Rf.out.below HB.out).at (i:=k) (by rw [Hf.out];exact hlt) rfl;have Io:=fr_st (QL.out k hlt);have HQt:aY (HQ 198 (fs.getD k default).q.t):=(QL.out k hlt).good.1.t.mono (by decide);have UB:=zq (HBt.out _ HQt.out);have HEvk:=zq (fun z h hb=> VZ.out k z hlt h hb);have Qa:=zq (fun j hj=> HEq.out k j hlt hj);have Mh:aY (∀ z,QV fs k z↔(fs.getD k default).sp≠ [48]∧z=(fs.getD k default).q.t):=fun z=> Iff.rfl;have ml:aY ((∀ z,QV fs k z→¬ (cF x < z∧z < cF y))→cw fs x y k k→NoB fs x y (k + 1)):=fun h1 h2=> HN.out.next h1 h2;have HNj:aY (∀ j,cw fs x y k j→(∀ z,((fs.getD j default).up=(fs.getD k default).up∧eU (fs.getD j default).q (fs.getD k default).q z)→¬ (cF x < z∧z < cF y))→cw fs x y k (j + 1)):=fun j h1 h2=> h1.next h2;have HJJ:aY (∀ j,j < k→∀ z,((fs.getD j default).up=(fs.getD k default).up∧eU (fs.getD j default).q (fs.getD k default).q z)→ui fs k k z):=fun j hj z h=> ⟨j,hj,h.1,h.2⟩;have Tt:((bs (fs.getD k default).sp).toList== [48])=decide ((fs.getD k default).sp= [48]):=by
    rw [cI,aX];rw [Bool.eq_iff_iff];simp
   have HSp:=zq Tt;clear Tt HN HQt;have Qa:aY (∀ j,j < nf→(fs.getD j default).up=(fs.getD k default).up→∀ W,aJ w.heap.size w W→aQ aC 103 #[(fs.getD j default).v,dM #[aM (fs.getD k default).up,aF aG (fs.getD k default).co,aF aG (fs.getD k default).dir,aA (bs (fs.getD k default).sp),aA (bs (fs.getD k default).st)]] W fun e w' => (∃ a n cap,∃ L:List Rat,e=aO (bO #[aB a n cap,aF aG 0])∧L.length=n∧n≤1000∧rW w' a (strs (L.map aV))∧(∀ z,z∈L↔eU (fs.getD j default).q (fs.getD k default).q z)∧∀ z∈L,HQ 198 z)∧aJ W.heap.size W w'):=Qa;have HFc:aY (∀ W,aJ w.heap.size w W→W.cell? ⟨fb,fo + k * 5,none⟩=some (aM (fs.getD k default).up)∧W.cell? ⟨fb,fo + k * 5 + 1,none⟩=some (aF aG (fs.getD k default).co)∧W.cell? ⟨fb,fo + k * 5 + 2,none⟩=some (aF aG (fs.getD k default).dir)∧W.cell? ⟨fb,fo + k * 5 + 3,none⟩=some (aA (bs (fs.getD k default).sp))∧W.cell? ⟨fb,fo + k * 5 + 4,none⟩=some (aA (bs (fs.getD k default).st))):=fun W hW=> by
    obtain⟨b',o',e,q0,q1,q2,q3,q4⟩:=(Rf.out.below hW).at (i:=k) (by rw [Hf.out];exact hlt) rfl;injection e with e;injection e with e1 e2;subst e1 e2;exact⟨q0,q1,q2,q3,q4⟩
   generalize (fs.getD k default).q=fq at *;generalize fs.getD k default=f at *;obtain⟨uM,yX,kX,DX,KI⟩:=f;simp only [] at *;rw [Io] at Qa HFc c4;clear Io;generalize fq.t=ft at *;generalize bs (aV ft)=FT at *;have hki:(k:Int) < (nf:Int):=by omega
   go_upto_region 4 with (fail)
   go_cut [33] (fun v V=> aY (aJ w.heap.size w V)∧((v=aM false∧aY (∀ z,QV fs k z→¬ (cF x < z∧z < cF y)))∨(v=aM true∧aY (Tl fs x y))));case first=>
    have hsp:=HSp.out;by_cases h48:DX= [48]
    ·rw [decide_eq_true h48] at hsp;have R:aY (∀ z,QV fs k z→¬ (cF x < z∧z < cF y)):=fun z h=> absurd h48 ((Mh.out z).1 h).1;clear h48;generalize bs DX=Fsq at *;go_wp2;go_meet;case rel=> exact⟨HB.out, .inl ⟨rfl,R.out⟩⟩
    ·rw [decide_eq_false h48] at hsp;by_cases hb:cF x < ft∧ft < cF y
     ·have R:aY (Tl fs x y):=HEvk.out ft (.inl ((Mh.out ft).2 ⟨h48,rfl⟩)) hb;have UB:aY (∀ W,aJ w.heap.size w W→aQ aC 102 #[aA X,aA FT,aA Y] W (Rt (aM true) W)):=fun W h=> by have:=UB.out W h;rwa [decide_eq_true hb] at this
      clear h48 hb;generalize bs DX=Fsq at *;go_wp2_with fail
      refine kb (UB.out _ HB.out) HB.out fun W1 fK=> ?_;go_wp2;go_meet;case rel=> exact⟨fK.out, .inr ⟨rfl,R.out⟩⟩
     ·have R:aY (∀ z,QV fs k z→¬ (cF x < z∧z < cF y)):=fun z h=> by rw [((Mh.out z).1 h).2];exact hb
      have UB:aY (∀ W,aJ w.heap.size w W→aQ aC 102 #[aA X,aA FT,aA Y] W (Rt (aM false) W)):=fun W h=> by have:=UB.out W h;rwa [decide_eq_false hb] at this
      clear h48 hb;generalize bs DX=Fsq at *;go_wp2_with fail
      refine kb (UB.out _ HB.out) HB.out fun W1 fK=> ?_;go_wp2;go_meet;case rel=> exact⟨fK.out, .inl ⟨rfl,R.out⟩⟩
   case rest=>
   obtain⟨fK,⟨rfl,HS⟩ | ⟨rfl,HX⟩⟩:=hcut;case inr=>
    have R:aY (Ty fs x y w (aO (aM true)) wc):=⟨⟨true,rfl,⟨fun _=> HX.out,fun _=> rfl⟩⟩,fK.out⟩;go_wp2;go_ret;exact R.out
   clear c0 c1 c2 c3 c4 HB UB HSp Mh;rename aE=> w1;generalize bs DX=Fsq at *;go_wp2;go_loopw [8] (fun i wr=> ∃ j:Nat,i=aF aG j∧j≤k∧aY (aJ w.heap.size w wr)∧aY (cw fs x y k j)) (fun i _=> k - (aK i).toNat);case atStart=> exact⟨0,rfl,bR _,fK.out,cw.zero⟩
   case round=>
    obtain⟨j,rfl,hj,gD,HJ⟩:=hrel;by_cases hlt2:j < k
    ·obtain⟨fb',fo',e1,d0,d1,d2,d3,d4⟩:=(Rf.out.below gD.out).at (i:=j) (by rw [Hf.out];omega) rfl;injection e1 with e1;injection e1 with e1 e2;subst e1 e2;obtain⟨c0,c1,c2,c3,c4⟩:=HFc.out _ gD.out;have Tu:=zq (Qa.out j (by omega));have HNjj:=zq (HNj.out j HJ.out);have HJJj:=zq (HJJ.out j hlt2);unfold Fr.v Fr.cells at Tu;generalize (fs.getD j default).q=gq at *;generalize fs.getD j default=g at *;obtain⟨Fi,PL,Au,kw,lf⟩:=g;simp only [] at *;generalize bs kw=GS at *;generalize bs lf=GT at *;have hki:(k:Int) < (nf:Int):=by omega
     have hji:(j:Int) < (nf:Int):=by omega
     by_cases hup:Fi=uM;case neg=>
      have KF:=zq (HNjj.out (fun z h=> absurd h.1 hup));have hux:(uM==Fi)=false:=by cases uM <;> cases Fi <;> first | rfl | exact absurd rfl hup
      clear Tu;cases uM <;> cases Fi <;> (try (exact absurd rfl hup)) <;> clear hup;all_goals
       go_wp2;go_region;all_goals
        go_wp2;go_roundw;case rel=> exact⟨j + 1,by go_num,by omega,gD.out.drew,KF.out⟩
        case measure=> simp only [aK];omega
     case pos=>
      subst hup;have HEqz:=zq (Tu.out rfl);have HJJz:aY (∀ z,eU gq fq z→ui fs k k z):=fun z h=> HJJj.out z ⟨rfl,h⟩;have HNjz:aY ((∀ z,eU gq fq z→¬ (cF x < z∧z < cF y))→cw fs x y k (j + 1)):=fun h=> HNjj.out (fun z hz=> h z hz.2);clear Tu HJJj HNjj;go_wp2;go_region;go_wp2;have hBd:=gD.out.drew;have Nn:=zq hBd;clear hBd;go_cut [9,10] (fun s c V=> c=aF aG 0∧∃ (a' :Option dE) (n' F3:Nat) (Lq:List Rat),s=aB a' n' F3∧n' ≤1000∧aY (aJ w.heap.size w V)∧aY (Lq.length=n')∧aY (rW V a' (strs (Lq.map aV)))∧aY (∀ z,z∈Lq↔eU gq fq z)∧aY (∀ z∈Lq,HQ 198 z));case first=>
       go_region_held3 (fun w' => w'.cell? ⟨fb,fo + j * 5,none⟩=some (aM Fi)∧w'.cell? ⟨fb,fo + j * 5 + 1,none⟩=some (aF aG PL)∧w'.cell? ⟨fb,fo + j * 5 + 2,none⟩=some (aF aG Au)∧w'.cell? ⟨fb,fo + j * 5 + 3,none⟩=some (aA GS)∧w'.cell? ⟨fb,fo + j * 5 + 4,none⟩=some (aA GT)∧w'.cell? ⟨fb,fo + k * 5,none⟩=some (aM Fi)∧w'.cell? ⟨fb,fo + k * 5 + 1,none⟩=some (aF aG yX)∧w'.cell? ⟨fb,fo + k * 5 + 2,none⟩=some (aF aG kX)∧w'.cell? ⟨fb,fo + k * 5 + 3,none⟩=some (aA Fsq)∧w'.cell? ⟨fb,fo + k * 5 + 4,none⟩=some (aA FT)) (go_keep)
        ((go_at_call 103;(with_reducible refine(HEqz.out _ Nn.out.drew).mono ?_);rintro e w1' ⟨⟨a',n',F3,Lq,rfl,hl,hn',hr,hm,hq⟩,hb1⟩;have HL1:=zq hl;have QR:=zq hr;have HL3:=zq hm;have HL4:=zq hq;have HBo:=zq (aT Nn.out.drew hb1);clear hl hr hm hq;have mg0:=bV hb1 (p:=⟨fb,fo + j * 5,none⟩) (v:=aM Fi) (by simp [*]);have mg1:=bV hb1 (p:=⟨fb,fo + j * 5 + 1,none⟩) (v:=aF aG PL) (by simp [*]);have mg2:=bV hb1 (p:=⟨fb,fo + j * 5 + 2,none⟩) (v:=aF aG Au) (by simp [*]);have mg3:=bV hb1 (p:=⟨fb,fo + j * 5 + 3,none⟩) (v:=aA GS) (by simp [*]);have mg4:=bV hb1 (p:=⟨fb,fo + j * 5 + 4,none⟩) (v:=aA GT) (by simp [*]);have mf0:=bV hb1 (p:=⟨fb,fo + k * 5,none⟩) (v:=aM Fi) (by simp [*]);have mf1:=bV hb1 (p:=⟨fb,fo + k * 5 + 1,none⟩) (v:=aF aG yX) (by simp [*]);have mf2:=bV hb1 (p:=⟨fb,fo + k * 5 + 2,none⟩) (v:=aF aG kX) (by simp [*]);have mf3:=bV hb1 (p:=⟨fb,fo + k * 5 + 3,none⟩) (v:=aA Fsq) (by simp [*]);have mf4:=bV hb1 (p:=⟨fb,fo + k * 5 + 4,none⟩) (v:=aA FT) (by simp [*])))
       all_goals
        go_wp2;go_meet;case rel=> exact⟨rfl,_,_,_,Lq,rfl,hn',HBo.out,HL1.out,QR.out,HL3.out,HL4.out⟩
      case rest=>
      obtain⟨rfl,a',n',F3,Lq,rfl,hn',HB3,Hl,Hr,Hm,Hq⟩:=hcut;clear c0 c1 c2 c3 c4 d0 d1 d2 d3 d4 HEqz gD Nn;rename aE=> wo;go_wp2;go_loopw [11] (fun i wr=> ∃ m:Nat,i=aF aG m∧m≤n' ∧aY (aJ w.heap.size w wr)∧aY (aJ wo.heap.size wo wr)∧aY (∀ z∈Lq.take m,¬ (cF x < z∧z < cF y))) (fun i _=> n' - (aK i).toNat);case atStart=> exact⟨0,rfl,bR _,HB3.out,aI _ _,fun z h=> absurd h (by simp)⟩
      case round=>
       obtain⟨m,rfl,hm',vG,HBo4,HNm⟩:=hrel;by_cases hlt3:m < n'
       ·obtain⟨ab,ao,rfl,x0⟩:=(Hr.out.below HBo4.out) m (by rw [lS,cG,Hl.out];exact hlt3);have zW:m < Lq.length:=by rw [Hl.out];exact hlt3
        have hxz:(strs (Lq.map aV)).getD m undef=aA (bs (aV (Lq.getD m 0))):=by simp [strs,aN,zW]
        rw [hxz] at x0;have hzm:Lq.getD m 0∈Lq:=cP zW 0;have HLt:aY (Lq.take (m + 1)=Lq.take m ++ [Lq.getD m 0]):=by
         show _=_;rw [List.take_succ_eq_append_getElem zW];simp [aN,zW]
        have HBz:=zq (HBt.out _ (Hq.out _ hzm));have HMz:=zq ((Hm.out _).1 hzm);clear hxz zW hzm;generalize Lq.getD m 0=z at *;by_cases hb:cF x < z∧z < cF y
        ·have R:aY (Tl fs x y):=HEvk.out z (.inr (HJJz.out z HMz.out)) hb;have HBz:aY (∀ W,aJ w.heap.size w W→aQ aC 102 #[aA X,aA (bs (aV z)),aA Y] W (Rt (aM true) W)):=fun W h=> by have:=HBz.out W h;rwa [decide_eq_true hb] at this
         clear hb;generalize bs (aV z)=ZT at *;go_wp2_with fail
         refine ka (HBz.out _ vG.out) fun W1 hb1=> ?_;have R2:aY (Ty fs x y w (aO (aM true)) W1):=⟨⟨true,rfl,⟨fun _=> R.out,fun _=> rfl⟩⟩,aT vG.out hb1⟩;clear hb1;go_wp2;go_ret;exact R2.out
        ·have HNz:aY (∀ t∈Lq.take (m + 1),¬ (cF x < t∧t < cF y)):=fun t ht=> by
          rw [HLt.out] at ht;rcases List.mem_append.1 ht with h | h
          ·exact HNm.out t h
          ·rw [List.mem_singleton.1 h];exact hb
         have HBz:aY (∀ W,aJ w.heap.size w W→aQ aC 102 #[aA X,aA (bs (aV z)),aA Y] W (Rt (aM false) W)):=fun W h=> by have:=HBz.out W h;rwa [decide_eq_false hb] at this
         clear hb HNm;generalize bs (aV z)=ZT at *;go_wp2_with fail
         refine ka (HBz.out _ vG.out) fun W1 hb1=> ?_;have wV:=zq (aT vG.out hb1);have HBo5:=zq (aT HBo4.out hb1);clear hb1;go_wp2;go_roundw;case rel=> exact⟨m + 1,by go_num,by omega,wV.out,HBo5.out,HNz.out⟩
         case measure=> simp only [aK];omega
       ·obtain rfl:n' =m:=by omega
        have KF:=zq (HNjz.out (fun z h=> HNm.out z (by rw [dH (by rw [Hl.out];exact aD _)];exact(Hm.out z).2 h)));clear HNm HNjz;go_wp2;go_roundw;case rel=> exact⟨j + 1,by go_num,by omega,vG.out,KF.out⟩
        case measure=> simp only [aK];omega
    ·obtain rfl:k=j:=by omega
     have KF:=zq (ml.out HS.out HJ.out);go_wp2;go_roundw;case rel=> exact⟨k + 1,by go_num,by omega,gD.out,KF.out⟩
     case measure=> simp only [aK];omega
  ·obtain rfl:nf=k:=by omega
   have R:aY (Ty fs x y w (aO (aM false)) wr):=⟨⟨false,rfl,⟨fun h=> (by cases h),fun h=> absurd h (uP.out HN.out)⟩⟩,HB.out⟩;go_wp2;go_ret;exact R.out
theorem PM.at{w:aE}{a:Option dE}{qs:List Po}(h:PM w a qs){i:Nat}(hi:i<qs.length){p:Po}(hp:qs.getD i default=p):∃b off,a=some ⟨b,off,none⟩∧w.cell? ⟨b,off+i*2,none⟩=some (aA (bs p.x))∧w.cell? ⟨b,off+i*2+1,none⟩=some (aA (bs p.y)):=by
 subst hp;exact h i hi
theorem IR.at{w:aE}{a:Option dE}{ls:List Lo}(h:IR w a ls){i:Nat}(hi:i<ls.length){l:Lo}(hl:ls.getD i default=l):∃b off,a=some ⟨b,off,none⟩∧w.cell? ⟨b,off+i,none⟩=some (aB l.a l.qs.length l.cap)∧PM w l.a l.qs:=by
 subst hl;exact h i hi
theorem om (a b:Option dE) (nf n ca cb:Nat) (fs:List Fr) (ls:List Lp) (z:List UInt8) (w:aE) (hE:eZ w)
 (hf:fs.length=nf) (hl:ls.length=n) (FK:nf≤1000000) (hn:n≤1000000) (pK:∀ f∈fs,f.sp.length≤30∧f.st.length≤30) (sW:Fk ls) (hz:z.length≤8000000)
 (rf:wP w a fs) (rl:zP w b ls) :
 aQ aC 10 #[aB a nf ca,aB b n cb,aA (bs z)] w (Rt (bO #[aA (bs (Ae fs ls z).1),aF aG (Ae fs ls z).2]) w):=by
 have HP:=zq (Mj a b nf n ca cb fs ls z w hE hf hl FK hn pK sW hz rf rl);have HZ:=zq (fun h=> IW (z:=z) pK sW h);have HM:aY (∀ s t:List UInt8,s.length≤8000000→t.length≤8000000→∀ W,aJ w.heap.size w W→aQ aC 34 #[aA (bs s),aA (bs t)] W (Rt (bO #[aA (bs (lF s t).1),aF aG (lF s t).2]) W)):=fun s t hs ht W hW=> by
  have:=Xe (bs s) (bs t) W (hE.below hW) (by rw [bU];unfold cA;omega) (by rw [bU];unfold cA;omega);rwa [aX,aX] at this
 have HS:aY (∀ s t:List UInt8,s.length≤700→t.length≤700→∀ W,aJ w.heap.size w W→aQ aC 35 #[aA (bs s),aA (bs t)] W (Rt (bO #[aA (bs (tO s t).1),aF aG (tO s t).2]) W)):=fun s t hs ht W hW=> by
  have:=Xc (bs s) (bs t) W (hE.below hW) (by rw [bU];unfold cA;omega) (by rw [bU];unfold cA;omega);rwa [aX,aX] at this
 have HD:aY (∀ s:List UInt8,s.length≤700→∀ W,aJ w.heap.size w W→aQ aC 37 #[aA (bs s),aA { data:= #[50] }] W (Rt (bO #[aA (bs (qH s [50]).1),aF aG (qH s [50]).2]) W)):=fun s hs W hW=> by
  have:=Xf (bs s) { data:= #[50] } W (hE.below hW) (by rw [bU];unfold cA;omega) (by decide);rwa [aX] at this
 have HU:aY (∀ (T:List (List UInt8)) (N cap:Nat) (a:Option dE),T.length=N→N≤2147483648→(∀ k,(T.getD k []).length≤700)→∀ W,aJ w.heap.size w W→rW W a (strs T)→aQ aC 36 #[aB a N cap] W (Rt (bO #[aA (bs (mK T).1),aF aG (mK T).2]) W)):=fun T N cap a hT hN hk W hW hr=>
  yu a N cap T W (hE.below hW) hT (by omega) (fun k _=> by rw [bU];have:=hk k;unfold cA;omega) hr
 have R0:aY (Ae fs ls z=if fR fs ls z=0 then(if (mK (iM (gT fs ls z))).2=0 then qH (mK (iM (gT fs ls z))).1 [50] else([],(mK (iM (gT fs ls z))).2)) else([],fR fs ls z)):=rfl;clear hE hf hl pK sW hz rf rl FK hn;generalize Ae fs ls z=AQ at *;unfold Mi at HP;generalize gT fs ls z=PV at *;generalize fR fs ls z=PE at *;generalize bs z=Z at *;by_cases h0:PE=0;case neg=>
  rw [iN h0] at R0;have h' :(PE !=0)=true:=by rw [bne_iff_ne];exact h0
  clear h0 HZ HM HS HD HU;go_enter func10,ntmps10;go_wp2_with fail
  refine HP.out.mono ?_;rintro e W1 ⟨⟨a1,c1,iJ,rfl, -, -⟩,hb1⟩;have fK:=zq hb1;clear hb1;go_wp2;go_ret2;exact⟨by rw [R0.out] <;> rfl,fK.out⟩
 case pos=>
 subst h0;rw [ip rfl] at R0;obtain⟨oo,oB⟩:=HZ.out rfl;have yf:=zq oB;clear oB HZ;go_enter func10,ntmps10;go_wp2_with fail
 refine HP.out.mono ?_;rintro e W1 ⟨⟨a1,c1,iJ,rfl,hq,ro⟩,hb1⟩;have fK:=zq hb1;have Hq:=zq hq;have Ro:=zq ro;have ZZ:aY (iJ.length=PV.length):=by show _=_;rw [← hq,cG]
 clear hb1 hq ro HP;obtain⟨m,hm⟩:∃ m,PV.length=m:=⟨_,rfl⟩;rw [hm] at oo ZZ ⊢;have Hm:=zq hm;clear hm;have HT:aY (∀ i,i < m→iM (PV.take (i + 1))=iM (PV.take i) ++ jC (PV.getD i [])):=fun i hi=> JR (by rw [Hm.out];exact hi);have HTe:aY (iM (PV.take m)=iM PV):=by show _=_;rw [dH (by rw [Hm.out];exact aD _)]
 have O0:=zq (World.ownsRow_lit W1 (base:=W1.heap.size) (e:=24) (size:=1) #[] 0 (aD _) (bR _) rfl);have BA:=zq ((aI W1.heap.size W1).alloc (aD _) (aL #[] 24));go_wp2;go_loopw [10,11] (fun o i wr=> ∃ (k N:Nat) (ad:Option dE) (co:Nat) (T:List (List UInt8)),i=aF aG k∧k≤m∧o=aB ad N co∧aY (Ef k 0 N)∧aY (T.length=N)∧aY (T=iM (PV.take k))∧aY (wr.ownsRow W1.heap.size 24 1 (aB ad N co) N (strs T))∧aY (aJ W1.heap.size W1 wr)) (fun _ i _=> m - (aK i).toNat);case atStart=> exact⟨0,0,_,0, [],rfl,bR _,rfl,Ef.zero,rfl,rfl,O0.out,BA.out⟩
 case round=>
  clear O0 BA;obtain⟨k,N,ad,co,T,rfl,hk,rfl,HN,HTl,zm,HO,HB⟩:=hrel;by_cases hlt:k < m
  ·obtain⟨lb,lo,rfl,c0,rp⟩:=(Ro.out.below HB.out).at (i:=k) (by rw [ZZ.out];exact hlt) rfl;have P7:PV.getD k []∈PV:=cP (by rw [Hm.out];exact hlt) [];have hqk:(iJ.getD k default).qs=PV.getD k []:=by
    rw [← Hq.out];have:k < iJ.length:=by rw [ZZ.out];exact hlt
    simp [aN,this]
   have hrk:∀ W,aJ W1.heap.size W1 W→W.cell? ⟨lb,lo + k,none⟩=some (aB (iJ.getD k default).a (iJ.getD k default).qs.length (iJ.getD k default).cap)∧PM W (iJ.getD k default).a (iJ.getD k default).qs:=fun W h=> by
    obtain⟨b',o',e,c,r⟩:=(Ro.out.below h).at (i:=k) (by rw [ZZ.out];exact hlt) rfl;injection e with e;injection e with e1 e2;subst e1 e2;exact⟨c,r⟩
   obtain⟨zW,rV⟩:=yf.out _ P7;have tv:=zq (HT.out k hlt);rw [← hqk] at zW rV tv;have SS:=zq rV;have HRk:=zq hrk;clear rp P7 hqk rV hrk;generalize iJ.getD k default=l at *;obtain⟨la,lcp,qs⟩:=l;simp only [] at *;obtain⟨n2,hn2⟩:∃ n2,qs.length=n2:=⟨_,rfl⟩;rw [hn2] at zW c0 HRk;have qE:=zq hn2;clear hn2;have HTL:aY (∀ j,j < n2→(jC qs).take (j + 1)=(jC qs).take j ++ [XK (qs.getD j default) (qs.getD ((j + 1) % n2) default)]):=fun j hj=> by
    have:=JS (ps:=qs) (k:=j) (by rw [qE.out];exact hj);rwa [qE.out] at this
   have HTLe:aY ((jC qs).take n2=jC qs):=by show _=_;rw [dH (by rw [Fq,qE.out];exact aD _)]
   have HTn:aY (T=T ++ (jC qs).take 0):=by show _=_;simp
   go_wp2;go_loopw [10,12] (fun o i wr=> ∃ (j N2:Nat) (ad:Option dE) (co:Nat) (T2:List (List UInt8)),i=aF aG j∧j≤n2∧o=aB ad N2 co∧aY (Ef k j N2)∧aY (T2.length=N2)∧aY (T2=T ++ (jC qs).take j)∧aY (wr.ownsRow W1.heap.size 24 1 (aB ad N2 co) N2 (strs T2))∧aY (aJ W1.heap.size W1 wr)) (fun _ i _=> n2 - (aK i).toNat);case atStart=> exact⟨0,N,_,_,T,rfl,bR _,rfl,HN.out,HTl.out,HTn.out,HO.out,HB.out⟩
   case round=>
    clear HTn;obtain⟨j,N2,ad2,co2,T2,rfl,hj,rfl,KF,V8,MP,Bq,yZ⟩:=hrel;obtain⟨Pq,rp⟩:=HRk.out _ yZ.out;have Rp:=zq rp;clear rp c0;by_cases hlt2:j < n2
    ·have QQ:(j + 1) % n2 < n2:=fW _ (by omega);have GG:=xU j n2;have Zo:=zq (HTL.out j hlt2);have s1:=SS.out _ (cP (i:=j) (by rw [qE.out];exact hlt2) (default:Po));have s2:=SS.out _ (cP (i:=(j + 1) % n2) (by rw [qE.out];exact QQ) (default:Po));generalize (j + 1) % n2=q at *;obtain⟨pb,po,rfl,d0,d1⟩:=Rp.out.at (i:=j) (by rw [qE.out];exact hlt2) rfl;obtain⟨pb',po',e1,f0,f1⟩:=Rp.out.at (i:=q) (by rw [qE.out];exact QQ) rfl;injection e1 with e1;injection e1 with e1 e2;subst e1 e2;generalize qs.getD j default=p at *;generalize qs.getD q default=p2 at *;obtain⟨px,py⟩:=p;obtain⟨qx,qy⟩:=p2;simp only [] at *;have ZP:=zq (HM.out px qy s1.1 s2.2);have oc:=zq (HM.out qx py s2.1 s1.2);have Mh:=zq (HS.out (lF px qy).1 (lF qx py).1 (GW _ _) (GW _ _));have Zo:aY ((jC qs).take (j + 1)=(jC qs).take j ++ [(tO (lF px qy).1 (lF qx py).1).1]):=Zo;obtain⟨D,hD⟩:∃ D,(tO (lF px qy).1 (lF qx py).1).1=D:=⟨_,rfl⟩;rw [hD] at Zo Mh;generalize (tO (lF px qy).1 (lF qx py).1).2=D2 at *;generalize bs (lF px qy).1=M1 at *;generalize (lF px qy).2=M1e at *;generalize bs (lF qx py).1=M2 at *;generalize (lF qx py).2=M2e at *;have HTS:aY (strs T2 ++ [aA (bs D)]=strs (T2 ++ [D])):=by show _=_;unfold strs;rw [qO];rfl
     have HTT:aY (T2 ++ [D]=T ++ (jC qs).take (j + 1)):=by show _=_;rw [MP.out,Zo.out,Ch]
     have HTN:aY ((T2 ++ [D]).length=N2 + 1):=by show _=_;rw [cU,V8.out];rfl
     clear hD s1 s2 Zo V8 MP;obtain⟨T3,hT3⟩:∃ T3,T2 ++ [D]=T3:=⟨_,rfl⟩;rw [hT3] at HTS HTT HTN;generalize bs D=DB at *;clear hT3;generalize bs px=PX at *;generalize bs py=PY at *;generalize bs qx=QX at *;generalize bs qy=QY at *;have EQ:IntKind.i64.wrap ((j:Int) + 1)=(j:Int) + 1:=aP _ (by omega);have Gf:¬ n2=0:=by omega
     have hqi:(q:Int) < (n2:Int):=by omega
     have wl:(0:Int)≤(q:Int):=by omega
     have l1:pb < wr.heap.size:=bF wr ⟨pb,po + j * 2,none⟩ d0;have l2:lb < wr.heap.size:=bF wr ⟨lb,lo + k,none⟩ Pq;have v1:∀ j,pb < wr.heap.size + j:=fun j=> by omega
     have v2:∀ j,¬ pb=wr.heap.size + j:=fun j=> by omega
     have v3:¬ pb=wr.heap.size:=by omega
     have u1:∀ j,lb < wr.heap.size + j:=fun j=> by omega
     have u2:∀ j,¬ lb=wr.heap.size + j:=fun j=> by omega
     have u3:¬ lb=wr.heap.size:=by omega
     have jn:(j:Int) < (n2:Int):=by omega
     have km:(k:Int) < (m:Int):=by omega
     have hBs:=yZ.out.size;go_wp2;go_cut [13,14] (fun x y W=> ∃ g h:Nat,x= .pointer (some ⟨g,0,none⟩)∧y= .pointer (some ⟨h,0,none⟩)∧aY (VV wr W g h (#[aA PX,aA PY]) (#[aA QX,aA QY])));case first=>
      go_region;all_goals
       go_wp2;go_meet;case rel=> first | exact⟨_,_,rfl,rfl,XL _ _ _⟩ | exact⟨_,_,rfl,rfl,jointO2 _ _ _⟩
     case rest=>
     obtain⟨g',h',rfl,rfl,HJ⟩:=hcut;clear EQ GG v1 v2 v3 u1 u2 u3 l1 l2 Gf hqi wl jn km d0 d1 f0 f1 Pq;have FJ:=zq (aT yZ.out HJ.out.2.2);have ot:=zq (cT Bq.out HJ.out.2.2);have G1:=zq HJ.out.1;have G2:=zq HJ.out.2.1;clear HJ Bq yZ;obtain⟨p0,p1, -, -,pl⟩:=G1.out.two;obtain⟨q0,q1, -, -,ql⟩:=G2.out.two;go_wp2_with fail
     with_reducible refine(ZP.out _ (aT fK.out FJ.out)).mono ?_
     rintro e W2 ⟨rfl,hb2⟩;have gD:=zq (aT FJ.out hb2);have pd:=zq (cT ot.out hb2);have G1a:=zq (G1.out.below hb2 G1.out.lt);have G2a:=zq (G2.out.below hb2 G2.out.lt);clear p0 p1 pl q0 q1 ql hb2 G1 G2 ZP FJ ot;obtain⟨p0,p1, -, -,pl⟩:=G1a.out.two;obtain⟨q0,q1, -, -,ql⟩:=G2a.out.two;go_wp2_with fail
     with_reducible refine(oc.out _ (aT fK.out gD.out)).mono ?_
     rintro e W3 ⟨rfl,hb3⟩;have HB3:=zq (aT gD.out hb3);have UC:=zq (cT pd.out hb3);clear p0 p1 pl q0 q1 ql hb3 G1a G2a oc gD pd;go_wp2_with fail
     with_reducible refine(Mh.out _ (aT fK.out HB3.out)).mono ?_
     rintro e W4 ⟨rfl,hb4⟩;have vG:=zq (aT HB3.out hb4);have CZ:=cT UC.out hb4;have uN:=vG.out.size;have hN3:N2 + 1≤2147483648:=KF.out.lt (by omega) (by omega);clear hb4 Mh HB3 UC;go_wp2_with (at_builtin;refine DS rfl _ _ rfl W1.heap.size (aB ad2 N2 co2) N2 _ rfl CZ DB rfl hN3 uN ?_;intro g5 Tr w5 qT hg5 Dk)
     have wV:=zq (dB vG.out Dk CZ (aD _) uN);rw [HTS.out] at qT;have UC:=zq qT;clear CZ qT Dk vG HTS;go_wp2;go_roundw;case rel=> exact⟨j + 1,N2 + 1,_,Tr,T3,by go_num,by omega,rfl,KF.out.step,HTN.out,HTT.out,UC.out,wV.out⟩
     case measure=> simp only [aK];omega
    ·obtain rfl:n2=j:=by omega
     have HTT:aY (T2=iM (PV.take (k + 1))):=by show _=_;rw [MP.out,HTLe.out,zm.out,tv.out]
     go_wp2;go_roundw;case rel=> exact⟨k + 1,N2,ad2,co2,T2,by go_num,by omega,rfl,KF.out.next zW,V8.out,HTT.out,Bq.out,yZ.out⟩
     case measure=> simp only [aK];omega
  ·obtain rfl:m=k:=by omega
   have HTA:aY (T=iM PV):=by show _=_;rw [zm.out,HTe.out]
   have HUx:=zq (HU.out T N co ad HTl.out (cC (rq _) (HN.out.lt oo (by decide))) (fun i=> by rw [HTA.out];exact JT _ _));have Hr:aY (rW wr ad (strs T)):=rW.own HO.out;rw [← HTA.out] at R0;have HDv:=zq (HD.out (mK T).1 (Tj _));clear HTA zm HTl HT HTe HU HM HS HD;generalize qH (mK T).1 [50]=DV at *;generalize bs (mK T).1=SV at *;generalize (mK T).2=SE at *;go_wp2_with fail
   with_reducible refine(HUx.out _ (aT fK.out HB.out) Hr.out).mono ?_
   rintro e W2 ⟨rfl,hb2⟩;have gD:=zq (aT (aT fK.out HB.out) hb2);clear hb2 HUx Hr;by_cases hs:SE=0
   ·rw [ip hs] at R0;subst hs;go_wp2_with fail
    with_reducible refine(HDv.out _ gD.out).mono ?_
    rintro e W3 ⟨rfl,hb3⟩;have HB3:=zq (aT gD.out hb3);clear hb3;go_wp2;go_ret2;exact⟨by rw [R0.out] <;> rfl,HB3.out⟩
   ·rw [iN hs] at R0;have h' :(SE !=0)=true:=by rw [bne_iff_ne];exact hs
    clear hs;go_wp2;go_ret2;exact⟨by rw [R0.out] <;> rfl,gD.out⟩
theorem tr_Area (a b:Option dE) (nf n ca cb:Nat) (fs:List Fr) (ls:List Lp) (z:List UInt8) (w:aE) (hE:eZ w)
 (hf:fs.length=nf) (hl:ls.length=n) (FK:nf≤1000000) (hn:n≤1000000) (pK:∀ f∈fs,f.sp.length≤30∧f.st.length≤30) (sW:Fk ls) (hz:z.length≤8000000)
 (rf:wP w a fs) (rl:zP w b ls) :
 aQ aC 9 #[aB a nf ca,aB b n cb,aA (bs z)] w (Rt (bO #[aA (bs (Ae fs ls z).1),aF aG (Ae fs ls z).2]) w):=by
 have HP:=zq (IT a b nf n ca cb fs ls z w hE hf hl FK hn pK sW hz rf rl);have HZ:=zq (fun h=> IW (z:=z) pK sW h);have HM:aY (∀ s t:List UInt8,s.length≤8000000→t.length≤8000000→∀ W,aJ w.heap.size w W→aQ aC 30 #[aA (bs s),aA (bs t)] W (Rt (bO #[aA (bs (lF s t).1),aF aG (lF s t).2]) W)):=fun s t hs ht W hW=> by
  have:=Xt (bs s) (bs t) W (hE.below hW) (by rw [bU];omega) (by rw [bU];omega);rwa [aX,aX] at this
 have HS:aY (∀ s t:List UInt8,s.length≤700→t.length≤700→∀ W,aJ w.heap.size w W→aQ aC 31 #[aA (bs s),aA (bs t)] W (Rt (bO #[aA (bs (tO s t).1),aF aG (tO s t).2]) W)):=fun s t hs ht W hW=> by
  have:=Xs (bs s) (bs t) W (hE.below hW) (by rw [bU];omega) (by rw [bU];omega);rwa [aX,aX] at this
 have HD:aY (∀ s:List UInt8,s.length≤700→∀ W,aJ w.heap.size w W→aQ aC 33 #[aA (bs s),aA { data:= #[50] }] W (Rt (bO #[aA (bs (qH s [50]).1),aF aG (qH s [50]).2]) W)):=fun s hs W hW=> by
  have:=Xu (bs s) { data:= #[50] } W (hE.below hW) (by rw [bU];omega) (by decide);rwa [aX] at this
 have HU:aY (∀ (T:List (List UInt8)) (N cap:Nat) (a:Option dE),T.length=N→N≤2147483648→(∀ k,(T.getD k []).length≤700)→∀ W,aJ w.heap.size w W→rW W a (strs T)→aQ aC 32 #[aB a N cap] W (Rt (bO #[aA (bs (mK T).1),aF aG (mK T).2]) W)):=fun T N cap a hT hN hk W hW hr=>
  yw a N cap T W (hE.below hW) hT (by omega) (fun k _=> by rw [bU];have:=hk k;omega) hr
 have R0:aY (Ae fs ls z=if fR fs ls z=0 then(if (mK (iM (gT fs ls z))).2=0 then qH (mK (iM (gT fs ls z))).1 [50] else([],(mK (iM (gT fs ls z))).2)) else([],fR fs ls z)):=rfl;clear hE hf hl pK sW hz rf rl FK hn;generalize Ae fs ls z=AQ at *;unfold Mi at HP;generalize gT fs ls z=PV at *;generalize fR fs ls z=PE at *;generalize bs z=Z at *;by_cases h0:PE=0;case neg=>
  rw [iN h0] at R0;have h' :(PE !=0)=true:=by rw [bne_iff_ne];exact h0
  clear h0 HZ HM HS HD HU;go_enter func9,ntmps9;go_wp2_with fail
  refine HP.out.mono ?_;rintro e W1 ⟨⟨a1,c1,iJ,rfl, -, -⟩,hb1⟩;have fK:=zq hb1;clear hb1;go_wp2;go_ret2;exact⟨by rw [R0.out] <;> rfl,fK.out⟩
 case pos=>
 subst h0;rw [ip rfl] at R0;obtain⟨oo,oB⟩:=HZ.out rfl;have yf:=zq oB;clear oB HZ;go_enter func9,ntmps9;go_wp2_with fail
 refine HP.out.mono ?_;rintro e W1 ⟨⟨a1,c1,iJ,rfl,hq,ro⟩,hb1⟩;have fK:=zq hb1;have Hq:=zq hq;have Ro:=zq ro;have ZZ:aY (iJ.length=PV.length):=by show _=_;rw [← hq,cG]
 clear hb1 hq ro HP;obtain⟨m,hm⟩:∃ m,PV.length=m:=⟨_,rfl⟩;rw [hm] at oo ZZ ⊢;have Hm:=zq hm;clear hm;have HT:aY (∀ i,i < m→iM (PV.take (i + 1))=iM (PV.take i) ++ jC (PV.getD i [])):=fun i hi=> JR (by rw [Hm.out];exact hi);have HTe:aY (iM (PV.take m)=iM PV):=by show _=_;rw [dH (by rw [Hm.out];exact aD _)]
 have O0:aY (W1.ownsRow W1.heap.size 24 1 (aB none 0 0) 0 (strs [])):=⟨rfl, .inl ⟨rfl,rfl⟩⟩;go_wp2;go_loopw [10,35] (fun o i wr=> ∃ (k N:Nat) (ad:Option dE) (co:Nat) (T:List (List UInt8)),i=aF aG k∧k≤m∧o=aB ad N co∧aY (Ef k 0 N)∧aY (T.length=N)∧aY (T=iM (PV.take k))∧aY (wr.ownsRow W1.heap.size 24 1 (aB ad N co) N (strs T))∧aY (aJ W1.heap.size W1 wr)) (fun _ i _=> m - (aK i).toNat);case atStart=> exact⟨0,0,_,0, [],rfl,bR _,rfl,Ef.zero,rfl,rfl,O0.out,aI _ _⟩
 case round=>
  clear O0;obtain⟨k,N,ad,co,T,rfl,hk,rfl,HN,HTl,zm,HO,HB⟩:=hrel;by_cases hlt:k < m
  ·obtain⟨lb,lo,rfl,c0,rp⟩:=(Ro.out.below HB.out).at (i:=k) (by rw [ZZ.out];exact hlt) rfl;have P7:PV.getD k []∈PV:=cP (by rw [Hm.out];exact hlt) [];have hqk:(iJ.getD k default).qs=PV.getD k []:=by
    rw [← Hq.out];have:k < iJ.length:=by rw [ZZ.out];exact hlt
    simp [aN,this]
   have hrk:∀ W,aJ W1.heap.size W1 W→W.cell? ⟨lb,lo + k,none⟩=some (aB (iJ.getD k default).a (iJ.getD k default).qs.length (iJ.getD k default).cap)∧PM W (iJ.getD k default).a (iJ.getD k default).qs:=fun W h=> by
    obtain⟨b',o',e,c,r⟩:=(Ro.out.below h).at (i:=k) (by rw [ZZ.out];exact hlt) rfl;injection e with e;injection e with e1 e2;subst e1 e2;exact⟨c,r⟩
   obtain⟨zW,rV⟩:=yf.out _ P7;have tv:=zq (HT.out k hlt);rw [← hqk] at zW rV tv;have SS:=zq rV;have HRk:=zq hrk;clear rp P7 hqk rV hrk;generalize iJ.getD k default=l at *;obtain⟨la,lcp,qs⟩:=l;simp only [] at *;obtain⟨n2,hn2⟩:∃ n2,qs.length=n2:=⟨_,rfl⟩;rw [hn2] at zW c0 HRk;have qE:=zq hn2;clear hn2;have HTL:aY (∀ j,j < n2→(jC qs).take (j + 1)=(jC qs).take j ++ [XK (qs.getD j default) (qs.getD ((j + 1) % n2) default)]):=fun j hj=> by
    have:=JS (ps:=qs) (k:=j) (by rw [qE.out];exact hj);rwa [qE.out] at this
   have HTLe:aY ((jC qs).take n2=jC qs):=by show _=_;rw [dH (by rw [Fq,qE.out];exact aD _)]
   have HTn:aY (T=T ++ (jC qs).take 0):=by show _=_;simp
   go_wp2;go_loopw [10,41] (fun o i wr=> ∃ (j N2:Nat) (ad:Option dE) (co:Nat) (T2:List (List UInt8)),i=aF aG j∧j≤n2∧o=aB ad N2 co∧aY (Ef k j N2)∧aY (T2.length=N2)∧aY (T2=T ++ (jC qs).take j)∧aY (wr.ownsRow W1.heap.size 24 1 (aB ad N2 co) N2 (strs T2))∧aY (aJ W1.heap.size W1 wr)) (fun _ i _=> n2 - (aK i).toNat);case atStart=> exact⟨0,N,_,_,T,rfl,bR _,rfl,HN.out,HTl.out,HTn.out,HO.out,HB.out⟩
   case round=>
    clear HTn;obtain⟨j,N2,ad2,co2,T2,rfl,hj,rfl,KF,V8,MP,Bq,yZ⟩:=hrel;obtain⟨Pq,rp⟩:=HRk.out _ yZ.out;have Rp:=zq rp;clear rp c0;by_cases hlt2:j < n2
    ·have QQ:(j + 1) % n2 < n2:=fW _ (by omega);have GG:=xU j n2;have Zo:=zq (HTL.out j hlt2);have s1:=SS.out _ (cP (i:=j) (by rw [qE.out];exact hlt2) (default:Po));have s2:=SS.out _ (cP (i:=(j + 1) % n2) (by rw [qE.out];exact QQ) (default:Po));generalize (j + 1) % n2=q at *;obtain⟨pb,po,rfl,d0,d1⟩:=Rp.out.at (i:=j) (by rw [qE.out];exact hlt2) rfl;obtain⟨pb',po',e1,f0,f1⟩:=Rp.out.at (i:=q) (by rw [qE.out];exact QQ) rfl;injection e1 with e1;injection e1 with e1 e2;subst e1 e2;generalize qs.getD j default=p at *;generalize qs.getD q default=p2 at *;obtain⟨px,py⟩:=p;obtain⟨qx,qy⟩:=p2;simp only [] at *;have ZP:=zq (HM.out px qy s1.1 s2.2);have oc:=zq (HM.out qx py s2.1 s1.2);have Mh:=zq (HS.out (lF px qy).1 (lF qx py).1 (GW _ _) (GW _ _));have Zo:aY ((jC qs).take (j + 1)=(jC qs).take j ++ [(tO (lF px qy).1 (lF qx py).1).1]):=Zo;obtain⟨D,hD⟩:∃ D,(tO (lF px qy).1 (lF qx py).1).1=D:=⟨_,rfl⟩;rw [hD] at Zo Mh;generalize (tO (lF px qy).1 (lF qx py).1).2=D2 at *;generalize bs (lF px qy).1=M1 at *;generalize (lF px qy).2=M1e at *;generalize bs (lF qx py).1=M2 at *;generalize (lF qx py).2=M2e at *;have HTS:aY (strs T2 ++ [aA (bs D)]=strs (T2 ++ [D])):=by show _=_;unfold strs;rw [qO];rfl
     have HTT:aY (T2 ++ [D]=T ++ (jC qs).take (j + 1)):=by show _=_;rw [MP.out,Zo.out,Ch]
     have HTN:aY ((T2 ++ [D]).length=N2 + 1):=by show _=_;rw [cU,V8.out];rfl
     clear hD s1 s2 Zo V8 MP;obtain⟨T3,hT3⟩:∃ T3,T2 ++ [D]=T3:=⟨_,rfl⟩;rw [hT3] at HTS HTT HTN;generalize bs D=DB at *;clear hT3;generalize bs px=PX at *;generalize bs py=PY at *;generalize bs qx=QX at *;generalize bs qy=QY at *;have EQ:IntKind.i64.wrap ((j:Int) + 1)=(j:Int) + 1:=aP _ (by omega);have Gf:¬ n2=0:=by omega
     have hqi:(q:Int) < (n2:Int):=by omega
     have wl:(0:Int)≤(q:Int):=by omega
     have l1:pb < wr.heap.size:=bF wr ⟨pb,po + j * 2,none⟩ d0;have l2:lb < wr.heap.size:=bF wr ⟨lb,lo + k,none⟩ Pq;have v1:∀ j,pb < wr.heap.size + j:=fun j=> by omega
     have v2:∀ j,¬ pb=wr.heap.size + j:=fun j=> by omega
     have v3:¬ pb=wr.heap.size:=by omega
     have u1:∀ j,lb < wr.heap.size + j:=fun j=> by omega
     have u2:∀ j,¬ lb=wr.heap.size + j:=fun j=> by omega
     have u3:¬ lb=wr.heap.size:=by omega
     have jn:(j:Int) < (n2:Int):=by omega
     have km:(k:Int) < (m:Int):=by omega
     have hBs:=yZ.out.size;have HJ:aY (aJ wr.heap.size wr ((wr.alloc (aL #[aA PX,aA PY] 56)).alloc (aL #[aA QX,aA QY] 56))∧bZ ((wr.alloc (aL #[aA PX,aA PY] 56)).alloc (aL #[aA QX,aA QY] 56)) wr.heap.size #[aA PX,aA PY] 56∧bZ ((wr.alloc (aL #[aA PX,aA PY] 56)).alloc (aL #[aA QX,aA QY] 56)) (wr.heap.size + 1) #[aA QX,aA QY] 56):=by
      refine⟨((aI _ wr).alloc (aD _) _).alloc (by simp) _,(bZ.new wr _ _).alloc _, ?_⟩;have:=bZ.new (wr.alloc (aL #[aA PX,aA PY] 56)) #[aA QX,aA QY] 56;rwa [aS] at this
     have FJ:=zq (aT yZ.out HJ.out.1);have ot:=zq (cT Bq.out HJ.out.1);have G1:=zq HJ.out.2.1;have G2:=zq HJ.out.2.2;clear HJ Bq yZ;go_wp2_with fail
     with_reducible refine(ZP.out _ (aT fK.out FJ.out)).mono ?_
     rintro e W2 ⟨rfl,hb2⟩;have gD:=zq (aT FJ.out hb2);have pd:=zq (cT ot.out hb2);have G1a:=zq (G1.out.below hb2 G1.out.lt);have G2a:=zq (G2.out.below hb2 G2.out.lt);clear EQ GG v1 v2 v3 u1 u2 u3 l1 l2 Gf hqi wl jn km d0 d1 f0 f1 Pq hb2 G1 G2 ZP FJ ot;obtain⟨p0,p1, -, -,pl⟩:=G1a.out.two;obtain⟨q0,q1, -, -,ql⟩:=G2a.out.two;go_wp2_with fail
     with_reducible refine(oc.out _ (aT fK.out gD.out)).mono ?_
     rintro e W3 ⟨rfl,hb3⟩;have HB3:=zq (aT gD.out hb3);have UC:=zq (cT pd.out hb3);clear p0 p1 pl q0 q1 ql hb3 G1a G2a oc gD pd;go_wp2_with fail
     with_reducible refine(Mh.out _ (aT fK.out HB3.out)).mono ?_
     rintro e W4 ⟨rfl,hb4⟩;have vG:=zq (aT HB3.out hb4);have CZ:=cT UC.out hb4;have uN:=vG.out.size;have hN3:N2 + 1≤2147483648:=KF.out.lt (by omega) (by omega);clear hb4 Mh HB3 UC;go_wp2_with (at_builtin;refine DS rfl _ _ rfl W1.heap.size (aB ad2 N2 co2) N2 _ rfl CZ DB rfl hN3 uN ?_;intro g5 Tr w5 qT hg5 Dk)
     have wV:=zq (dB vG.out Dk CZ (aD _) uN);rw [HTS.out] at qT;have UC:=zq qT;clear CZ qT Dk vG HTS;go_wp2;go_roundw;case rel=> exact⟨j + 1,N2 + 1,_,Tr,T3,by go_num,by omega,rfl,KF.out.step,HTN.out,HTT.out,UC.out,wV.out⟩
     case measure=> simp only [aK];omega
    ·obtain rfl:n2=j:=by omega
     have HTT:aY (T2=iM (PV.take (k + 1))):=by show _=_;rw [MP.out,HTLe.out,zm.out,tv.out]
     go_wp2;go_roundw;case rel=> exact⟨k + 1,N2,ad2,co2,T2,by go_num,by omega,rfl,KF.out.next zW,V8.out,HTT.out,Bq.out,yZ.out⟩
     case measure=> simp only [aK];omega
  ·obtain rfl:m=k:=by omega
   have HTA:aY (T=iM PV):=by show _=_;rw [zm.out,HTe.out]
   have HUx:=zq (HU.out T N co ad HTl.out (cC (rq _) (HN.out.lt oo (by decide))) (fun i=> by rw [HTA.out];exact JT _ _));have Hr:aY (rW wr ad (strs T)):=rW.own HO.out;rw [← HTA.out] at R0;have HDv:=zq (HD.out (mK T).1 (Tj _));clear HTA zm HTl HT HTe HU HM HS HD;generalize qH (mK T).1 [50]=DV at *;generalize bs (mK T).1=SV at *;generalize (mK T).2=SE at *;go_wp2_with fail
   with_reducible refine(HUx.out _ (aT fK.out HB.out) Hr.out).mono ?_
   rintro e W2 ⟨rfl,hb2⟩;have gD:=zq (aT (aT fK.out HB.out) hb2);clear hb2 HUx Hr;by_cases hs:SE=0
   ·rw [ip hs] at R0;subst hs;go_wp2_with fail
    with_reducible refine(HDv.out _ gD.out).mono ?_
    rintro e W3 ⟨rfl,hb3⟩;have HB3:=zq (aT gD.out hb3);clear hb3;go_wp2;go_ret2;exact⟨by rw [R0.out] <;> rfl,HB3.out⟩
   ·rw [iN hs] at R0;have h' :(SE !=0)=true:=by rw [bne_iff_ne];exact hs
    clear hs;go_wp2;go_ret2;exact⟨by rw [R0.out] <;> rfl,gD.out⟩
theorem Ox (a b:Option dE) (n ca cb:Nat) (qs:List Po) (w:aE) (hn:qs.length=n) (hbig:n≤1000000) (ra:PM w a qs) (rb:PM w b qs) :
 aQ aC 22 #[aB a n ca,aB b n cb] w (Rt (aM true) w):=by
 have Ra:=zq ra;have Rb:=zq rb;have Hn:=zq hn;clear ra rb hn;go_enter func22,ntmps22;go_wp2;go_loopw [13] (fun i wr=> ∃ k:Nat,i=aF aG k∧k≤n∧aY (aJ w.heap.size w wr)) (fun i _=> n - (aK i).toNat);case atStart=> exact⟨0,rfl,bR _,aI _ w⟩
 case round=>
  obtain⟨k,rfl,hk,HB⟩:=hrel;by_cases hlt:k < n
  ·obtain⟨pb,po,rfl,c0,c1⟩:=(Ra.out.below HB.out).at (i:=k) (by rw [Hn.out];exact hlt) rfl;obtain⟨qb,qo,rfl,d0,d1⟩:=(Rb.out.below HB.out).at (i:=k) (by rw [Hn.out];exact hlt) rfl;have hji:(k:Int) < (n:Int):=by omega
   generalize qs.getD k default=P at *;obtain⟨px,py⟩:=P;simp only [] at *;have Q:∀ W,(Op.equalIn 10000 56 (dM #[aA (bs px),aA (bs py)]) (dM #[aA (bs px),aA (bs py)])).run aC W= .ok true W:=fun W=> by rw [eqPo];simp
   generalize bs px=PX at *;generalize bs py=PY at *;go_wp2;go_region;all_goals
    go_wp2;go_roundw;case rel=> exact⟨k + 1,by go_num,by omega,HB.out.drew⟩
    case measure=> simp only [aK];omega
  ·obtain rfl:n=k:=by omega
   go_wp2;go_ret;exact⟨rfl,HB.out⟩
theorem Qc(a b:Option dE)(n ca cb:Nat)(qs:List Po)(w:aE)(hn:qs.length=n)(hbig:n≤1000000)(ra:PM w a qs)(rb:PM w b qs):
 aQ aC 54 #[aB a n ca,aB b n cb] w (Rt (aM true) w):=by
 have H:=zq (Ox a b n ca cb qs w hn hbig ra rb);clear ra rb hn;go_enter func54,ntmps54;go_wp2_with fail
 refine H.out.mono ?_;rintro e W1⟨rfl,hb1⟩;go_wp2;go_ret;exact⟨rfl,hb1⟩
theorem pg (a b:Option dE) (n ca cb:Nat) (xs ys:List Lo) (w:aE) (hx:xs.length=n) (hy:ys.map Lo.qs=xs.map Lo.qs) (hbig:n≤1000000) (rV:∀ l∈xs,l.qs.length≤1000000) (ra:IR w a xs) (rb:IR w b ys) :
 aQ aC 53 #[aB a n ca,aB b n cb, .func (.func 54) #[] #[]] w (Rt (aM true) w):=by
 have Ct:ys.length=n:=by have:=congrArg List.length hy;rw [cG,cG] at this;omega
 have HC:aY (∀ i,i < n→∀ W,aJ w.heap.size w W→aQ aC 54 #[aB (xs.getD i default).a (xs.getD i default).qs.length (xs.getD i default).cap,aB (ys.getD i default).a (ys.getD i default).qs.length (ys.getD i default).cap] W (Rt (aM true) W)):=fun i hi W hW=> by
  obtain⟨b1,o1,e1, -,r1⟩:=(ra.below hW).at (i:=i) (by rw [hx];exact hi) rfl;obtain⟨b2,o2,e2, -,r2⟩:=(rb.below hW).at (i:=i) (by rw [Ct];exact hi) rfl;have he:(ys.getD i default).qs=(xs.getD i default).qs:=by
   have h1:∀ zs:List Lo,i < zs.length→(zs.getD i default).qs=(zs.map Lo.qs).getD i []:=fun zs h=> by simp [aN,h]
   rw [h1 xs (by omega),h1 ys (by omega),hy]
  rw [he] at r2 ⊢;exact Qc _ _ _ _ _ _ W rfl (rV _ (cP (by rw [hx];exact hi) default)) r1 r2
 have Ra:=zq ra;have Rb:=zq rb;have Hx:=zq hx;have Hy:=zq Ct;clear ra rb hx hy Ct rV;go_enter func53,ntmps53;go_wp2;go_loopw [17] (fun i wr=> ∃ k:Nat,i=aF aG k∧k≤n∧aY (aJ w.heap.size w wr)) (fun i _=> n - (aK i).toNat);case atStart=> exact⟨0,rfl,bR _,aI _ w⟩
 case round=>
  obtain⟨k,rfl,hk,HB⟩:=hrel;by_cases hlt:k < n
  ·obtain⟨pb,po,rfl,c0, -⟩:=(Ra.out.below HB.out).at (i:=k) (by rw [Hx.out];exact hlt) rfl;obtain⟨qb,qo,rfl,d0, -⟩:=(Rb.out.below HB.out).at (i:=k) (by rw [Hy.out];exact hlt) rfl;have hji:(k:Int) < (n:Int):=by omega
   have Cm:=zq (HC.out k hlt);generalize xs.getD k default=X at *;generalize ys.getD k default=Y at *;generalize X.qs.length=xn at *;generalize Y.qs.length=yn at *;generalize X.a=xa at *;generalize Y.a=ya at *;generalize X.cap=xc at *;generalize Y.cap=yc at *;go_wp2_with fail
   refine(Cm.out _ HB.out).mono ?_;rintro e W1 ⟨rfl,hb1⟩;have fK:=zq (aT HB.out hb1);clear hb1 Cm;go_wp2;go_roundw;case rel=> exact⟨k + 1,by go_num,by omega,fK.out⟩
   case measure=> simp only [aK];omega
  ·obtain rfl:n=k:=by omega
   go_wp2;go_ret;exact⟨rfl,HB.out⟩
theorem Tz(a b:Option dE)(n ca cb:Nat)(xs ys:List Lo)(w:aE)(hx:xs.length=n)(hy:ys.map Lo.qs=xs.map Lo.qs)(hbig:n≤1000000)(rV:∀l∈xs,l.qs.length≤1000000)(ra:IR w a xs)(rb:IR w b ys):
 aQ aC 13 #[aB a n ca,aB b n cb] w (Rt (aM true) w):=by
 have H:=zq (pg a b n ca cb xs ys w hx hy hbig rV ra rb);clear ra rb hx hy rV;go_enter func13,ntmps13;go_wp2_with fail
 refine H.out.mono ?_;rintro e W1⟨rfl,hb1⟩;go_wp2;go_ret;exact⟨rfl,hb1⟩
def XV(xs:List (List UInt8)):Nat→Bool:=fun i=>decide (24<(xs.getD i []).length)
def Dl(xs:List (List UInt8)):Bool:=anyN (XV xs) xs.length
theorem Z3(s:ByteArray)(n:Nat)(w:aE)(hn:s.data.toList.length=n)(hbig:n≤9223372036854775807):
 aQ aC 19 #[aA s] w (Rt (aM (decide (24<n))) w):=by
 have hs:s.size=n:=by rw[←hn];rfl
 have HS:=zq hs;clear hn;go_enter func19,ntmps19;go_wp2;go_ret;have hd:decide ((24:Int)<(n:Int))=decide (24<n):=by rw[decide_eq_decide];omega
 exact⟨by rw[←hd];rfl,aI _ w⟩
theorem ph(a:Option dE)(n cap:Nat)(xs:List (List UInt8))(w:aE)(hn:xs.length=n)(hbig:n≤1000000)(hs:∀x∈xs,x.length≤9223372036854775807)(r:xO w a xs):
 aQ aC 5 #[aB a n cap] w (Rt (aM (Dl xs)) w):=by
 have H:=zq (ze 19 #[] (enters_of func19 (by kernel_rfl) rfl) a n cap xs (XV xs) w hn (by omega) r (fun i hi W _=>by
  have:=Z3 (bs (xs.getD i [])) _ W rfl (by rw[aX];exact hs _ (cP (by rw[hn];exact hi) []));rw[aX]at this;exact this))
 have R:aY (Dl xs=anyN (XV xs) n):=by show _=_;unfold Dl;rw[hn]
 clear hs hn r;go_enter func5,ntmps5;go_wp2_with fail
 refine H.out.mono ?_;rintro e W1⟨rfl,hb1⟩;go_wp2;go_ret;exact⟨by rw[R.out]<;>rfl,hb1⟩
def dL(ps:List Pt):List bB:=ps.flatMap fun p=>[aF aG p.side,aA (bs p.fr),aA (bs p.en)]
theorem Qd(ps:List Pt)(p:Pt):dL (ps++[p])=dL ps++[aF aG p.side,aA (bs p.fr),aA (bs p.en)]:=by simp[dL]
theorem TA(ps qs:List Pt):dL (ps++qs)=dL ps++dL qs:=by simp[dL]
theorem Ag(ps:List Pt):(dL ps).length=3*ps.length:=by
 induction ps with
 |nil=>rfl
 |cons q qs ih=>simp[dL]at *;omega
theorem zF:∀(ps:List Pt)(i:Nat),i<ps.length→(dL ps)[i*3]? =some (aF aG (ps.getD i default).side)∧(dL ps)[i*3+1]? =some (aA (bs (ps.getD i default).fr))∧(dL ps)[i*3+2]? =some (aA (bs (ps.getD i default).en))
 |[],i,h=>by simp at h
 |q::qs,0,_=>⟨rfl,rfl,rfl⟩
 |q::qs,i+1,h=>by
  have ih:=zF qs i (by simpa using h)
  have e1:(i+1)*3=i*3+1+1+1:=by omega
  have e2:(i+1)*3+1=(i*3+1)+1+1+1:=by omega
  have e3:(i+1)*3+2=(i*3+2)+1+1+1:=by omega
  have e:dL (q::qs)=aF aG q.side::aA (bs q.fr)::aA (bs q.en)::dL qs:=rfl
  rw[e3,e2,e1,e]
  simp only[List.getElem?_cons_succ,List.getD_cons_succ]
  exact ih
theorem Fg.own{w:aE}{base e:Nat}{a:Option dE}{n cap:Nat}{ps:List Pt}(h:w.ownsRow base e 3 (aB a n cap) n (dL ps)):Fg w a ps:=by
 intro i hi;have hl:=h.1;rw[Ag]at hl;rcases h.2 with⟨_,h2⟩|⟨g,c,D7,hv,_⟩
 ·omega
 ·injection hv with e1 e2 e3;subst e1 e3;obtain⟨k1,k2,k3⟩:=zF ps i hi;refine⟨g,0,rfl,fun j hj=>?_⟩;rw[gL,gJ h (i*3+j) (by omega)];match j,hj with
  |0,_=>exact k1
  |1,_=>exact k2
  |2,_=>exact k3
theorem D5:(Tryz.prog.info? 46).map (fun i=>(i.zero,i.size,i.bytes))=some (some (dM #[aF aG 0,aA ⟨#[]⟩,aA ⟨#[]⟩]),3,40):=by kernel_rfl
theorem pj:(Tryz.prog.info? 38).map (fun i=>(i.zero,i.size,i.bytes))=some (some (aB none 0 0),1,24):=by kernel_rfl
theorem pk{w:aE}{fA:Array A8}{rest:List A8}{o:A8}{a:Act}{Q:Exit→Act→aE→Prop}(FD:o.guard=none)(s x:Operand)
 (ho:o.op=.call {callee:=.builtin .append,args:= #[s,x],argTypes:= #[38,38]})(base:Nat)
 (v:bB)(n:Nat)(xs:List bB)(hs:a.eval s=v)(hown:w.ownsRow base 46 3 v n xs)
 (d:Int)(y z:ByteArray)(hx:a.eval x=aB (some ⟨w.heap.size,0,none⟩) 1 1)
 (QI:n+1≤2147483648)(lK:base≤w.heap.size)
 (h:∀g cap w',w'.ownsRow base 46 3 (aB (some ⟨g,0,none⟩) (n+1) cap) (n+1) (xs++[aF aG d,aA y,aA z])→base≤g→w.grownBy w' v.ownBlock→
  Dm aC fA Q rest (a.put o.dst (aB (some ⟨g,0,none⟩) (n+1) cap)) w'):
 Dm aC fA Q (o::rest) a (w.alloc (aL #[aF aG d,aA y,aA z] 46)):=by
 obtain⟨i0,hi,D8,uY,hz2⟩:=OG D5;exact sI FD s x 38 ho base 46 i0 (dM #[aF aG 0,aA ⟨#[]⟩,aA ⟨#[]⟩]) 3 40 underlying38 hi D8 uY hz2 rfl (by decide) v n xs hs hown [aF aG d,aA y,aA z] hx rfl (by simp[Nw]) QI (by decide) lK h
theorem TC{w:aE}{fA:Array A8}{rest:List A8}{o:A8}{a:Act}{Q:Exit→Act→aE→Prop}(FD:o.guard=none)(s x:Operand)
 (ho:o.op=.call {callee:=.builtin .append,args:= #[s,x],argTypes:= #[23,23]})(base:Nat)
 (v:bB)(n:Nat)(xs:List bB)(hs:a.eval s=v)(hown:w.ownsRow base 38 1 v n xs)
 (ad:Option dE)(m c:Nat)(hx:a.eval x=aB (some ⟨w.heap.size,0,none⟩) 1 1)
 (QI:n+1≤2147483648)(lK:base≤w.heap.size)
 (h:∀g cap w',w'.ownsRow base 38 1 (aB (some ⟨g,0,none⟩) (n+1) cap) (n+1) (xs++[aB ad m c])→base≤g→w.grownBy w' v.ownBlock→
  Dm aC fA Q rest (a.put o.dst (aB (some ⟨g,0,none⟩) (n+1) cap)) w'):
 Dm aC fA Q (o::rest) a (w.alloc (aL #[aB ad m c] 38)):=by
 obtain⟨i0,hi,D8,uY,hz2⟩:=OG pj;exact sI FD s x 23 ho base 38 i0 (aB none 0 0) 1 24 underlying23 hi D8 uY hz2 rfl (by decide) v n xs hs hown [aB ad m c] hx rfl (by simp[Nw]) QI (by decide) lK h
def nB(B:Nat)(W:aE)(v:bB)(IX:List Lp):Prop:=
 W.ownsRow B 38 1 v IX.length (IX.map Lp.v)∧∀l∈IX,W.ownsRow B 46 3 l.v l.ps.length (dL l.ps)
theorem nB.below{B:Nat}{W W':aE}{v:bB}{iJ:List Lp}(h:nB B W v iJ)(hb:aJ W.heap.size W W'):nB B W' v iJ:=
 ⟨cT h.1 hb,fun l hl=>cT (h.2 l hl) hb⟩
theorem nB.grow{B:Nat}{W W':aE}{v:bB}{iJ:List Lp}{l:Lp}{g cap:Nat}(h:nB B W v iJ)(hl:W.ownsRow B 46 3 l.v l.ps.length (dL l.ps))
 (hg:W.grownBy W' v.ownBlock)(hown:W'.ownsRow B 38 1 (aB (some ⟨g,0,none⟩) (iJ.length+1) cap) (iJ.length+1) (iJ.map Lp.v++[l.v])):
 nB B W' (aB (some ⟨g,0,none⟩) (iJ.length+1) cap) (iJ++[l]):=by
 refine⟨by rw[cU,qO];exact hown,fun x hx=>?_⟩;rcases List.mem_append.1 hx with hx|hx
 ·exact(h.2 x hx).kept hg (DY (h.2 x hx) h.1 (by decide))
 ·rw[List.mem_singleton.1 hx];exact hl.kept hg (DY hl h.1 (by decide))
theorem nB.reads{B:Nat}{W:aE}{a:Option dE}{n cap:Nat}{iJ:List Lp}(h:nB B W (aB a n cap) iJ):zP W a iJ:=by
 intro i hi;have hl:=cP hi (default:Lp);have h2:=h.2 _ hl;rcases h.1.2 with⟨_,h3⟩|⟨g,c,D7,hv,_⟩
 ·omega
 ·injection hv with e1 e2 e3;subst e1 e2 e3;refine⟨g,0,rfl,?_,Fg.own h2⟩;rw[gL,gJ h.1 i (by omega)];simp[aN,hi]
def G7(w:aE)(PN:List (List Pt))(err:Int)(e:Ending)(w':aE):Prop:=
 (∃a cap,∃iJ:List Lp,e=aO (bO #[aB a PN.length cap,aF aG err])∧iJ.map Lp.ps=PN∧zP w' a iJ)∧aJ w.heap.size w w'
def Fu(w W:aE)(g h i:Nat)(pc qc rc:Array bB):Prop:=bZ W g pc 46∧bZ W h qc 46∧bZ W i rc 46∧aJ w.heap.size w W∧g≠h∧i≠h∧w.heap.size≤h
theorem sR(w:aE)(c1 c2 c3:Array bB):∃W,(((w.alloc (aL c1 46)).alloc (aL c2 46)).alloc (aL c3 46)).drew=W∧bZ W w.heap.size c1 46∧bZ W (w.heap.size+1) c2 46∧bZ W (w.heap.size+1+1) c3 46∧aJ w.heap.size w W:=by
 refine⟨_,rfl,((bZ.new w _ _).alloc _).alloc _,?_,?_,((((aI _ w).alloc (aD _) _).alloc (by simp) _).alloc (by simp;omega) _).drew⟩
 ·have:=(bZ.new (w.alloc (aL c1 46)) c2 46).alloc (aL c3 46);rwa[aS]at this
 ·have:=bZ.new ((w.alloc (aL c1 46)).alloc (aL c2 46)) c3 46;rwa[aS,aS]at this
theorem pq(w:aE)(p q r:Array bB):Fu w (((w.alloc (aL p 46)).alloc (aL q 46)).alloc (aL r 46)).drew w.heap.size (w.heap.size+1) (w.heap.size+1+1) p q r:=by
 obtain⟨W,rfl,a,b,c,d⟩:=sR w p q r;exact⟨a,b,c,d,by omega,by omega,by omega⟩
theorem pr(w:aE)(p q r:Array bB):Fu w (((w.alloc (aL p 46)).alloc (aL r 46)).alloc (aL q 46)).drew w.heap.size (w.heap.size+1+1) (w.heap.size+1) p q r:=by
 obtain⟨W,rfl,a,b,c,d⟩:=sR w p r q;exact⟨a,c,b,d,by omega,by omega,by omega⟩
theorem pu(w:aE)(p q r:Array bB):Fu w (((w.alloc (aL q 46)).alloc (aL p 46)).alloc (aL r 46)).drew (w.heap.size+1) w.heap.size (w.heap.size+1+1) p q r:=by
 obtain⟨W,rfl,a,b,c,d⟩:=sR w q p r;exact⟨b,a,c,d,by omega,by omega,by omega⟩
theorem pv(w:aE)(p q r:Array bB):Fu w (((w.alloc (aL q 46)).alloc (aL r 46)).alloc (aL p 46)).drew (w.heap.size+1+1) w.heap.size (w.heap.size+1) p q r:=by
 obtain⟨W,rfl,a,b,c,d⟩:=sR w q r p;exact⟨c,a,b,d,by omega,by omega,by omega⟩
theorem pw(w:aE)(p q r:Array bB):Fu w (((w.alloc (aL r 46)).alloc (aL p 46)).alloc (aL q 46)).drew (w.heap.size+1) (w.heap.size+1+1) w.heap.size p q r:=by
 obtain⟨W,rfl,a,b,c,d⟩:=sR w r p q;exact⟨b,c,a,d,by omega,by omega,by omega⟩
theorem qd(w:aE)(p q r:Array bB):Fu w (((w.alloc (aL r 46)).alloc (aL q 46)).alloc (aL p 46)).drew (w.heap.size+1+1) (w.heap.size+1) w.heap.size p q r:=by
 obtain⟨W,rfl,a,b,c,d⟩:=sR w r q p;exact⟨c,b,a,d,by omega,by omega,by omega⟩
end
end Go.Proofs.YtcimoodjlopdaaaGreatDoor
