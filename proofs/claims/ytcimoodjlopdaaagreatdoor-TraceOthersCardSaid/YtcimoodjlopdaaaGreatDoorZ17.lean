import Derived.Test.YtcimoodjlopdaaaGreatDoorProg
import Derived.BigQuiet
import Derived.Deep.QuietTactic
import Derived.IntWalk
import Derived.Test.YtcimoodjlopdaaaGreatDoorZ0
import Derived.Test.YtcimoodjlopdaaaGreatDoorZ6
import Derived.Test.YtcimoodjlopdaaaGreatDoorZ13
import Derived.Test.YtcimoodjlopdaaaGreatDoorZ16
namespace Go.Proofs.YtcimoodjlopdaaaGreatDoor
set_option maxRecDepth 100000
set_option maxHeartbeats 8000000
set_option linter.all false
open Go.Proofs.Tryz
open _root_.Array renaming append_empty->Yc
open Bool renaming and_false->QC
open Go renaming World->aE,Calls->aQ,Value->bB,below_drewN->bH,bodyPost_ret->cD,Addr->dE,wpAnyH_ready->xY,wpAnyH_done->MN
open Go.Act renaming put->eC
open Go.AllReadyH renaming cons->mH,nil->nG
open Go.ByteArray renaming toList_eq->cI
open Go.Ending renaming returned->aO
open Go.Instr renaming lookup->Ij,checkKey->vk
open Go.IntKind renaming i64->aG
open Go.IntWalk renaming i64_in->aP
open Go.Obj renaming cells->aL
open Go.Proofs.Tryz renaming prog->aC,results23->qR,sizeOf58->sF,isAgg58->uR
open Go.Result renaming andThen->sf
open Go.RowKit renaming Below->aJ,intOf->aK,Hid->aY
open Go.RowKit.Below renaming refl->aI
open Go.Value renaming string->aA,slice->aB,int->aF,bool->aM,tuple->bO,pointer->cB,agg->dM
open Go.World renaming size_alloc->aS,block_lt_of_cell?->bF
open List renaming setIfInBounds_toArray->aU,getElem_cons_zero->aZ,getElem_cons_succ->bA,getElem_toArray->bC,set_cons_succ->bG,set_cons_zero->bK,length_map->cG,take_of_length_le->dH
open Nat renaming le_refl->aD,zero_le->bR
section
open Go Go.RowKit Go.Lib
def Fr.q(f:Fr):FQ:=⟨f.up,f.co,f.dir,cF f.sp,cF f.st⟩
theorem FQ.fr_q(q:FQ):q.fr.q=q:=by
 cases q;simp only[Fr.q,FQ.fr,kT]
structure Fr.Ok(f:Fr):Prop where
 chk:xN f=0
 sp:f.sp.length≤30
 st:f.st.length≤30
theorem Fr.Ok.good{f:Fr}(h:f.Ok):f.q.Good∧f.q.fr=f:=by
 obtain⟨q,hq,rfl⟩:=Fr.good h.chk h.sp h.st;rw[FQ.fr_q];exact⟨hq,rfl⟩
theorem Fr.Ok.dir{f:Fr}(h:f.Ok):f.dir=1∨f.dir= -1:=h.good.1.dir
theorem Aq{s:List UInt8}(h:dR s=0):cQ s=0∧HQ 36 (cF s)∧aV (cF s)=s:=by
 unfold dR at h;by_cases hc:cQ s=0
 ·rw[ip hc]at h;by_cases hl:long36 s=true
  ·rw[ip hl]at h;cases h
  ·exact⟨hc,Ob hc (by simpa using hl),Iw hc⟩
 ·rw[iN hc]at h;exact absurd h hc
theorem DW{s:List UInt8}(h:dR s=0):s.length≤8000000:=by
 obtain⟨-,h2,h3⟩:=Aq h;have:=mS h2 (by decide);rw[h3,bU]at this;exact this
def Md(f:Fr)(z:List UInt8):List UInt8:=aV (f.q.pos (cF z))
def iP(fs:List Fr)(z:List UInt8):List (List UInt8):=fs.map fun f=>Md f z
theorem PJ(f:Fr)(hf:f.Ok)(z:List UInt8)(hz:dR z=0)(w:aE)(hE:eZ w):
 aQ aC 66 #[f.v,aA (bs z)] w (Rt (bO #[aA (bs (Md f z)),aF aG 0]) w):=by
 obtain⟨hg,he⟩:=hf.good;obtain⟨-,h2,h3⟩:=Aq hz;have:=SG f.q hg (cF z) h2 w hE;rwa[he,h3]at this
theorem Nl(f:Fr)(hf:f.Ok)(z:List UInt8)(hz:dR z=0)(w:aE)(hE:eZ w):
 aQ aC 72 #[f.v,aA (bs z)] w (Rt (bO #[aA (bs (Md f z)),aF aG 0]) w):=by
 obtain⟨hg,he⟩:=hf.good;obtain⟨-,h2,h3⟩:=Aq hz;have:=PD f.q hg (cF z) h2 w hE;rwa[he,h3]at this
theorem SN{fs:List Fr}{z:List UInt8}{k:Nat}(hk:k<fs.length):strs ((iP fs z).take (k+1))=strs ((iP fs z).take k)++[aA (bs (Md (fs.getD k default) z))]:=by
 unfold iP strs;rw[List.take_succ_eq_append_getElem (by rw[cG];exact hk)];simp[List.getD_eq_getElem?_getD,hk]
def zj(B:Nat)(w:aE)(xs:List (List UInt8))(e:Ending)(w':aE):Prop:=
 ∃g cap,e=aO (aB (some ⟨g,0,none⟩) xs.length cap)∧B≤g∧xO w' (some ⟨g,0,none⟩) xs∧aJ w.heap.size w w'
theorem Ar (a:Option dE) (n ca:Nat) (fs:List Fr) (z:List UInt8) (w:aE) (hE:eZ w) (hf:fs.length=n) (hn:n≤1000000)
 (pK:∀ f∈fs,f.Ok) (hz:dR z=0) (rf:wP w a fs) :
 aQ aC 28 #[aB a n ca,aA (bs z)] w (zj w.heap.size w (iP fs z)):=by
 have HP:aY (∀ i,i < n→∀ W,aJ w.heap.size w W→aQ aC 72 #[(fs.getD i default).v,aA (bs z)] W (Rt (bO #[aA (bs (Md (fs.getD i default) z)),aF aG 0]) W)):=fun i hi W h=>
  Nl _ (pK _ (cP (by rw [hf];exact hi) default)) z hz W (hE.below h)
 have HT:aY (∀ i,i < n→strs ((iP fs z).take (i + 1))=strs ((iP fs z).take i) ++ [aA (bs (Md (fs.getD i default) z))]):=fun i hi=> SN (by rw [hf];exact hi);have HL:aY ((iP fs z).take n=iP fs z):=dH (by unfold iP;rw [cG,hf];exact aD _);have HN:aY ((iP fs z).length=n):=by show _=_;unfold iP;rw [cG,hf]
 have Hf:=zq hf;have Rf:=zq rf;clear hE hf pK hz rf;generalize iP fs z=L at *;generalize bs z=Z at *;have GU:=World.ownsRow_lit w (base:=w.heap.size) (e:=24) (size:=1) #[] 0 (aD _) (bR _) rfl;have Hown0:=zq GU;have mE:=zq ((aI w.heap.size w).alloc (aD _) (aL #[] 24));clear GU;go_enter func28,ntmps28;go_wp2;go_loopw [5,6] (fun o i wr=> ∃ (k g cap:Nat),i=aF aG k∧k≤n∧o=aB (some ⟨g,0,none⟩) k cap∧aY (wr.ownsRow w.heap.size 24 1 (aB (some ⟨g,0,none⟩) k cap) k (strs (L.take k)))∧aY (aJ w.heap.size w wr)) (fun _ i _=> n - (aK i).toNat);case atStart=> exact⟨0,w.heap.size,0,rfl,bR _,rfl,Hown0.out,mE.out⟩
 case round=>
  clear Hown0 mE;obtain⟨k,g,cap,rfl,hk,rfl,mV,HB⟩:=hrel;by_cases hlt:k < n
  ·obtain⟨b,off,rfl,c0,c1,c2,c3,c4⟩:=(Rf.out.below HB.out).at (i:=k) (by rw [Hf.out];exact hlt) rfl;have KH:=zq (HP.out k hlt);have zm:=zq (HT.out k hlt);unfold Fr.v Fr.cells at KH;generalize fs.getD k default=f at *;generalize bs (Md f z)=Y at *;go_wp2_with fail
   refine(KH.out _ HB.out).mono ?_;rintro e W1 ⟨rfl,hb1⟩;have gG:=aH HB.out hb1 HB.out.size;have eF:=cT mV.out hb1;have uN:=gG.size;go_wp2_with (at_builtin;refine DS rfl _ _ rfl w.heap.size _ _ _ rfl eF _ rfl (by omega) uN ?_;intro g1 wU w1 pD hg1 gH)
   have eQ:=zq (dB gG gH eF (aD _) uN);rw [← zm.out] at pD;have kp:=zq pD;clear eF pD gH;go_wp2;go_roundw;case rel=> exact⟨k + 1,g1,wU,by go_num,by omega,rfl,kp,eQ⟩
   case measure=> simp only [aK];omega
  ·obtain rfl:n=k:=by omega
   have hg:=(dJ mV.out).1;have R:aY (zj w.heap.size w L (aO (aB (some ⟨g,0,none⟩) n cap)) wr):=by
    have h1:=rW.own mV.out;rw [HL.out] at h1;exact⟨g,cap,by rw [HN.out],hg,rdN_of h1,HB.out⟩
   go_wp2;go_ret;exact R.out
def PK(a:Option dE)(n ca:Nat)(fs:List Fr)(zs:List (List UInt8))(ls:List Lp)(w:aE)(e:Ending)(w':aE):Prop:=
 (∃a1 n1 c1 a2 n2 c2,e=aO (bO #[dM #[aB a1 n1 c1,aB a2 n2 c2],aF aG (fH fs zs ls)])∧
  (fH fs zs ls=0→a1=a∧n1=n∧c1=ca∧(0<zs.length→n2=n∧xO w' a2 (iP fs (zs.getD 0 [])))))∧aJ w.heap.size w w'
theorem bZ.two{W:aE}{b:Nat}{x y:bB}{T:TypeId}(h:bZ W b #[x,y] T):W.cell? ⟨b,0,none⟩=some x∧W.cell? ⟨b,1,none⟩=some y∧W.frozen? ⟨b,0,none⟩=false∧W.frozen? ⟨b,1,none⟩=false∧b<W.heap.size:=
 ⟨h.cell 0,h.cell 1,h.fz 0,h.fz 1,h.lt⟩
theorem uC (a b c:Option dE) (n m k ca cb cc:Nat) (fs:List Fr) (ls:List Lp) (zs:List (List UInt8)) (w:aE) (hE:eZ w)
 (hf:fs.length=n) (hl:ls.length=m) (hz:zs.length=k) (hn:n≤1000000) (hm:m≤1000000) (hk:k≤1000000)
 (pK:∀ f∈fs,f.sp.length≤30∧f.st.length≤30) (sq:∀ z∈zs,z.length≤8000000) (sW:∀ l∈ls,l.ps.length≤1000000)
 (rf:wP w a fs) (rl:zP w b ls) (rz:xO w c zs) :
 aQ aC 23 #[aB a n ca,aB b m cb,aB c k cc] w (PK a n ca fs zs ls w):=by
 have HA:aY (∀ W,aJ w.heap.size w W→aQ aC 61 #[aB a n ca, .func (.func 62) #[] #[]] W (Rt (aM (anyN (Fh fs) n)) W)):=fun W hW=>
  Zn 62 #[] (enters_of func62 (by kernel_rfl) rfl) a n ca fs (Fh fs) W hf (by omega) (rf.below hW) (fun i hi W2 h2=> by
   have:=pK _ (cP (by rw [hf];exact hi) default);rw [Yc];exact zh _ W2 (hE.below (hW.trans (h2.mono hW.size))) (by omega) (by omega))
 have HL:aY (∀ W,aJ w.heap.size w W→aQ aC 64 #[aB b m cb, .func (.func 65) #[] #[]] W (Rt (aM (anyN (Mc ls) m)) W)):=fun W hW=>
  SL 65 #[] (enters_of func65 (by kernel_rfl) rfl) b m cb ls (Mc ls) W hl (by omega) (rl.below hW) (fun i hi W2 h2=> by
   rw [Yc];refine(zi _ _ _ (sW _ (cP (by rw [hl];exact hi) default)) W2).mono ?_;rintro e w' ⟨h1,rfl⟩;exact⟨h1,aI _ _⟩)
 have HZ:aY (∀ i,i < k→∀ W,aJ w.heap.size w W→aQ aC 47 #[aA (bs (zs.getD i []))] W (Rt (aF aG (dR (zs.getD i []))) W)):=fun i hi W h=> by
  have h1:=sq _ (cP (by rw [hz];exact hi) []);have:=GO (bs (zs.getD i [])) W (hE.below h) (by rw [bU];exact h1);rwa [aX] at this
 have HP:aY (anyN (Fh fs) n=false→0 < k→dR (zs.getD 0 [])=0→∀ i,i < n→∀ W,aJ w.heap.size w W→aQ aC 66 #[(fs.getD i default).v,aA (bs (zs.getD 0 []))] W (Rt (bO #[aA (bs (Md (fs.getD i default) (zs.getD 0 []))),aF aG 0]) W)):=fun hA hk0 h0 i hi W h=> by
  have h1:=pK _ (cP (by rw [hf];exact hi) default);have h2:=lU.1 hA i hi;have h3:xN (fs.getD i default)=0:=by unfold Fh at h2;simpa using h2
  exact PJ _ ⟨h3,h1.1,h1.2⟩ _ h0 W (hE.below h)
 have HT:aY (∀ i,i < n→strs ((iP fs (zs.getD 0 [])).take (i + 1))=strs ((iP fs (zs.getD 0 [])).take i) ++ [aA (bs (Md (fs.getD i default) (zs.getD 0 [])))]):=fun i hi=> SN (by rw [hf];exact hi);have HLn:aY ((iP fs (zs.getD 0 [])).take n=iP fs (zs.getD 0 [])):=dH (by unfold iP;rw [cG,hf];exact aD _);have Hf:=zq hf;have Hl:=zq hl;have Hz:=zq hz;have Rf:=zq rf;have Rz:=zq rz;have R1:aY (24 < n→fH fs zs ls=1):=fun h=> PI (by rw [hf];exact h);have R2:aY (anyN (Fh fs) n=true→fH fs zs ls=1):=fun h=> by
  obtain⟨i,hi,h2⟩:=kA.1 h;exact XA (by rw [hf];exact hi) h2
 have RF:aY (¬ 24 < n→anyN (Fh fs) n=false→Ac fs=false):=fun h1 h2=> Oh (by rw [hf];exact h1) (by rw [hf];exact h2);have RL1:aY (24 < m→wE ls=true):=fun h=> XB (by rw [hl];exact h);have RL2:aY (anyN (Mc ls) m=true→wE ls=true):=fun h=> by
  obtain⟨i,hi,h2⟩:=kA.1 h;exact XC (by rw [hl];exact hi) h2
 have RL3:aY (¬ 24 < m→anyN (Mc ls) m=false→wE ls=false):=fun h1 h2=> Oi (by rw [hl];exact h1) (by rw [hl];exact h2);have JK:aY (∀ c:Int,fH fs zs ls=c→c≠0→∀ W,aJ w.heap.size w W→PK a n ca fs zs ls w (aO (bO #[dM #[aB none 0 0,aB none 0 0],aF aG c])) W):=fun c h1 h2 W hB=>
  ⟨⟨_,_,_,_,_,_,by rw [h1],fun h=> absurd (h1.symm.trans h) h2⟩,hB⟩
 have q0:=bZ.new w #[aB none 0 0,aB none 0 0] 58;have fP:=(aI w.heap.size w).alloc (aD _) (aL #[aB none 0 0,aB none 0 0] 58);clear hE hf hl hz pK sq sW rf rl rz;obtain⟨w0,OW⟩:∃ W,w.alloc (aL #[aB none 0 0,aB none 0 0] 58)=W:=⟨_,rfl⟩;by_cases h24:24 < n
 ·have e:=zq (JK.out 1 (R1.out h24) (by decide));clear OW;go_enter func23,ntmps23;go_wp2;exact cD (cV (T:=58) qR _ _ w.heap.size _ _ rfl (by first | exact q0 | exact(q0.set 0 _).set 1 _) uR sF) rfl (e.out _ (by first | exact fP | exact(fP.setCell (aD _) _).setCell (aD _) _))
 ·have hB0' :=fP;have q0' :=q0;rw [OW] at hB0' q0';have mE:=zq hB0';have Q0:=zq q0';have HH:=zq OW;clear R1 fP q0 hB0' q0' OW;go_enter func23,ntmps23;go_wp2_with fail
  rw [HH.out];refine(HA.out _ mE.out).mono ?_;rintro e W1 ⟨rfl,hb1⟩;have gG:=aH mE.out hb1 mE.out.size;have Q1:=zq (Q0.out.below hb1 Q0.out.lt);clear hb1 HA HH Q0 mE;obtain⟨A,hA⟩:∃ A,anyN (Fh fs) n=A:=⟨_,rfl⟩;rw [hA] at R2 RF HP ⊢;clear hA;cases A with
  | true=>
   have e:=zq (JK.out 1 (R2.out rfl) (by decide));obtain⟨c0,c1,f0,f1,lt⟩:=Q1.out.two;go_wp2;exact cD (cV (T:=58) qR _ _ w.heap.size _ _ rfl ((Q1.out.set 0 _).set 1 _) uR sF) rfl (e.out _ ((gG.setCell (aD _) _).setCell (aD _) _))
  | false=>
   have Hbf:=zq (RF.out h24 rfl);have EA:=zq (HP.out rfl);clear R2 RF HP;go_wp2;go_loopw [26] (fun i wr=> ∃ j:Nat,i=aF aG j∧j≤k∧aY (aJ w.heap.size w wr)∧aY (bZ wr w.heap.size #[aB none 0 0,aB none 0 0] 58)∧aY (GR zs j=0)) (fun i _=> k - (aK i).toNat);case atStart=> exact⟨0,rfl,bR _,gG,Q1.out,rfl⟩
   case round=>
    clear gG Q1;obtain⟨j,rfl,hj,HB,HQ,hz⟩:=hrel;by_cases hlt:j < k
    ·obtain⟨p,off,rfl,c0⟩:=(Rz.out.below HB.out) j (by rw [Hz.out];exact hlt);have zg:=zq (HZ.out j hlt);have RZ:aY (dR (zs.getD j [])≠0→fH fs zs ls=dR (zs.getD j [])):=fun h=> kj Hbf.out (by rw [Hz.out];exact hlt) hz.out h;have RN:aY (dR (zs.getD j [])=0→GR zs (j + 1)=0):=fun h=> sP hz.out h;by_cases h0:dR (zs.getD j [])=0
     ·have e:=zq (RN.out h0);rw [h0] at zg;clear h0 RZ RN;generalize bs (zs.getD j [])=Z at *;go_wp2_with fail
      refine(zg.out _ HB.out).mono ?_;rintro e' W2 ⟨rfl,hb2⟩;go_wp2;go_roundw;case rel=> exact⟨j + 1,by go_num,by omega,aH HB.out hb2 HB.out.size,HQ.out.below hb2 HQ.out.lt,e⟩
      case measure=> simp only [aK];omega
     ·have e:=zq (JK.out _ (RZ.out h0) h0);have h' :(dR (zs.getD j []) !=0)=true:=by rw [bne_iff_ne];exact h0
      clear h0 RZ RN;generalize dR (zs.getD j [])=c at *;generalize bs (zs.getD j [])=Z at *;go_wp2_with fail
      refine(zg.out _ HB.out).mono ?_;rintro e' W2 ⟨rfl,hb2⟩;have eQ:=aH HB.out hb2 HB.out.size;have bm:=zq (HQ.out.below hb2 HQ.out.lt);obtain⟨d0,d1,f0,f1,lt⟩:=bm.out.two;go_wp2;exact cD (cV (T:=58) qR _ _ w.heap.size _ _ rfl ((bm.out.set 0 _).set 1 _) uR sF) rfl (e.out _ ((eQ.setCell (aD _) _).setCell (aD _) _))
    ·obtain rfl:k=j:=by omega
     have RL:=zq (ko (ls:=ls) Hbf.out (by rw [Hz.out];exact hz.out));have Gf:aY (0 < k→dR (zs.getD 0 [])=0):=fun h=> sQ hz.out 0 h;clear HZ Hbf hlt;rename aE=> wB;by_cases h24l:24 < m
     ·have e:=zq (JK.out 4 (RL.out.trans (ip (RL1.out h24l))) (by decide));obtain⟨d0,d1,f0,f1,lt⟩:=HQ.out.two;go_wp2;exact cD (cV (T:=58) qR _ _ w.heap.size _ _ rfl ((HQ.out.set 0 _).set 1 _) uR sF) rfl (e.out _ ((HB.out.setCell (aD _) _).setCell (aD _) _))
     ·go_wp2_with fail
      refine(HL.out _ HB.out).mono ?_;rintro e W3 ⟨rfl,hb3⟩;have fN:=zq (aH HB.out hb3 HB.out.size);have Q3:=zq (HQ.out.below hb3 HQ.out.lt);clear hb3 HB HQ HL RL1;obtain⟨A,hA⟩:∃ A,anyN (Mc ls) m=A:=⟨_,rfl⟩;rw [hA] at RL2 RL3 ⊢;clear hA;cases A with
      | true=>
       have e:=zq (JK.out 4 (RL.out.trans (ip (RL2.out rfl))) (by decide));obtain⟨d0,d1,f0,f1,lt⟩:=Q3.out.two;go_wp2;exact cD (cV (T:=58) qR _ _ w.heap.size _ _ rfl ((Q3.out.set 0 _).set 1 _) uR sF) rfl (e.out _ ((fN.out.setCell (aD _) _).setCell (aD _) _))
      | false=>
       have e0:=zq (RL.out.trans (iN (by rw [RL3.out h24l rfl];decide)));clear RL RL2 RL3 JK hz;obtain⟨d0,d1,f0,f1,lt⟩:=Q3.out.two;have Y7:=fN.out.alloc fN.out.size (aL #[aB a n ca,aB none 0 0] 58);have qA:=bZ.new W3 #[aB a n ca,aB none 0 0] 58;have q6:=Q3.out.alloc (aL #[aB a n ca,aB none 0 0] 58);by_cases hk0:0 < k
       ·have D8:=Gf.out hk0;have HPb:=zq (EA.out hk0 D8);obtain⟨pz,oz,rfl, -⟩:=Rz.out 0 (by rw [Hz.out];exact hk0);have HZc:aY (∀ W,aJ w.heap.size w W→W.cell? ⟨pz,oz,none⟩=some (aA (bs (zs.getD 0 [])))):=fun W hW=> by
         obtain⟨p',o',e1,h1⟩:=(Rz.out.below hW) 0 (by rw [Hz.out];exact hk0);injection e1 with e1;injection e1 with e1 e2;subst e1 e2;exact h1
        have Hz0:=zq D8;clear D8 EA Gf d0 d1 f0 f1 lt;generalize hZ:zs.getD 0 []=z0 at *;have HZe:=zq hZ;clear hZ;have HBA:=zq Y7;have QA:=zq qA;have Q6:=zq q6;have hlt3:w.heap.size < W3.heap.size:=Q3.out.lt;clear Y7 qA q6 fN Q3;go_wp2;obtain⟨G,hG⟩:∃ G,W3.heap.size=G:=⟨_,rfl⟩;rw [hG] at QA hlt3 ⊢;obtain⟨WA,ts⟩:∃ W,W3.alloc (aL #[aB a n ca,aB none 0 0] 58)=W:=⟨_,rfl⟩;rw [ts] at QA Q6 HBA ⊢;clear hG ts;go_loopw [52] (fun i wr=> ∃ (j:Nat) (v:bB),i=aF aG j∧j≤n∧aY (aJ w.heap.size w wr)∧aY (bZ wr w.heap.size #[aB none 0 0,aB none 0 0] 58)∧aY (bZ wr G #[aB a n ca,v] 58)∧aY (wr.ownsRow (G + 1) 24 1 v j (strs ((iP fs z0).take j)))) (fun i _=> n - (aK i).toNat);case atStart=> exact⟨0,_,rfl,bR _,HBA.out,Q6.out,QA.out,⟨by simp [strs], .inl ⟨rfl,rfl⟩⟩⟩
        case round=>
         clear HBA Q6 QA;obtain⟨j,v,rfl,hj,HB,Q6,QT,mV⟩:=hrel;by_cases hlt:j < n
         ·obtain⟨b1,off,rfl,c0,c1,c2,c3,c4⟩:=(Rf.out.below HB.out).at (i:=j) (by rw [Hf.out];exact hlt) rfl;have HPj:=zq (HPb.out j hlt);have Zo:=zq (HT.out j hlt);have hzc:=HZc.out _ HB.out;have td:b1 < wr.heap.size:=bF wr ⟨b1,off + j * 5,none⟩ c0;unfold Fr.v Fr.cells at HPj;generalize fs.getD j default=f at *;obtain⟨uM,yX,kX,DX,KI⟩:=f;simp only [] at *;generalize bs (Md ⟨uM,yX,kX,DX,KI⟩ z0)=Y at *;generalize bs DX=FSP at *;generalize bs KI=FST at *;generalize bs z0=Z at *;have HBb:=zq (HB.out.alloc HB.out.size (aL #[aM uM,aF aG yX,aF aG kX,aA FSP,aA FST] 44));go_wp2;go_cut [14] (fun v W=> v=aA Y∧aY (aJ wr.heap.size wr W));case first=>
           go_region_held3 (fun w' => (w'.cell? ⟨wr.heap.size,0,none⟩=some (aM uM)∧w'.cell? ⟨wr.heap.size,1,none⟩=some (aF aG yX)∧w'.cell? ⟨wr.heap.size,2,none⟩=some (aF aG kX)∧w'.cell? ⟨wr.heap.size,3,none⟩=some (aA FSP)∧w'.cell? ⟨wr.heap.size,4,none⟩=some (aA FST))∧w'.cell? ⟨pz,oz,none⟩=some (aA Z)) (go_keep)
            (first
             | (go_at_call 66;with_reducible refine(HPj.out _ HBb.out.drew).mono ?_;rintro e w1 ⟨rfl,hb1⟩;have ye:=zq (((aI wr.heap.size wr).alloc (aD _) _).drew.trans (hb1.mono (by simp)));have:=ck hb1 wr.heap.size 0 (aM uM);have:=ck hb1 wr.heap.size 1 (aF aG yX);have:=ck hb1 wr.heap.size 2 (aF aG kX);have:=ck hb1 wr.heap.size 3 (aA FSP);have:=ck hb1 wr.heap.size 4 (aA FST);have kz:=bV hb1 (p:=⟨pz,oz,none⟩) (v:=aA Z) (by simp [*])))
           go_wp2;go_meet;case rel=> exact⟨rfl,ye.out⟩
          case rest=>
          obtain⟨rfl,FJ⟩:=hcut;have rO:=zq (aT HB.out FJ.out);have Q6:=zq (Q6.out.below FJ.out Q6.out.lt);have zn:=QT.out.lt;have QT:=zq (QT.out.below FJ.out QT.out.lt);have eF:=cT mV.out FJ.out;have uN:G + 1≤wc.heap.size:=Nat.le_trans zn FJ.out.size;obtain⟨t0,t1,tf0,tf1,tl⟩:=QT.out.two;clear HB FJ mV HPj HPb c0 c1 c2 c3 c4 hzc HBb zn;go_wp2_with (at_builtin;refine DS rfl _ _ rfl (G + 1) v j _ rfl eF _ rfl (by omega) uN ?_;intro g1 wU w1 pD hg1 gH;have hqg:=zq (QT.out.grown gH (kS eF (by omega)));obtain⟨t0,t1,tf0,tf1,tl⟩:=hqg.out.two)
          have gD:=zq ((dB rO.out gH eF (by omega) rO.out.size).setCell (p:=⟨G,1,none⟩) (Nat.le_of_lt hlt3) (aB (some ⟨g1,0,none⟩) (j + 1) wU));have Q62:=zq ((Q6.out.grown gH (kS eF (by omega))).other (a:=⟨G,1,none⟩) (aB (some ⟨g1,0,none⟩) (j + 1) wU) (by show w.heap.size≠G;omega));have QT2:=zq (hqg.out.set 1 (aB (some ⟨g1,0,none⟩) (j + 1) wU));rw [← Zo.out] at pD;have kp:=zq (gQ pD (a:=⟨G,1,none⟩) (by show G < G + 1;omega) (aB (some ⟨g1,0,none⟩) (j + 1) wU));clear eF pD gH t0 t1 tf0 tf1 tl hqg rO Q6 QT;go_wp2;go_roundw;case rel=> exact⟨j + 1,_,by go_num,by omega,gD.out,Q62.out,QT2.out,kp.out⟩
          case measure=> simp only [aK];omega
         ·obtain rfl:n=j:=by omega
          obtain⟨t0,t1,tf0,tf1,tl⟩:=QT.out.two;obtain⟨d0,d1,f0,f1,lt⟩:=Q6.out.two;obtain⟨vb,vc,rfl⟩:∃ b c,v=aB b n c:=by
           rcases mV.out.2 with ⟨h1,h2⟩ | ⟨g,cap,D7,h1,_⟩
           ·exact⟨none,0,by rw [h1,h2]⟩
           ·exact⟨_,_,h1⟩
          have lE:¬ w.heap.size=G:=by omega
          have hne' :¬ G=w.heap.size:=by omega
          go_wp2;refine cD (cV (T:=58) qR _ _ w.heap.size _ _ rfl ((Q6.out.set 0 _).set 1 _) uR sF) rfl ⟨⟨a,n,ca,vb,n,vc,by rw [e0.out] <;> rfl,fun _=> ⟨rfl,rfl,rfl,fun _=> ⟨rfl, ?_⟩⟩⟩,(HB.out.setCell (aD _) _).setCell (aD _) _⟩;have CF:=gQ (gQ mV.out (a:=⟨w.heap.size,0,none⟩) (by show w.heap.size < G + 1;omega) (aB a n ca)) (a:=⟨w.heap.size,1,none⟩) (by show w.heap.size < G + 1;omega) (aB vb n vc);rw [HLn.out] at CF;rw [HZe.out];exact rdN_of (rW.own CF)
       ·have hk00:k=0:=by omega
        subst hk00;obtain⟨t0,t1,tf0,tf1,tl⟩:=qA.two;obtain⟨e00,e01,ef0,ef1,el⟩:=q6.two;have Q6:=zq q6;have HBA:=zq Y7;have hlz:zs.length=0:=Hz.out;have Hlz:=zq hlz;have lE:¬ w.heap.size=W3.heap.size:=Nat.ne_of_lt Q3.out.lt;clear hlz;go_wp2;exact cD (cV (T:=58) qR _ _ w.heap.size _ _ rfl (((Q3.out.set 0 _).set 1 _).alloc _) uR sF) rfl ⟨⟨a,n,ca,none,0,0,by rw [e0.out] <;> rfl,fun _=> ⟨rfl,rfl,rfl,fun h=> absurd h (by rw [Hlz.out];decide)⟩⟩,((fN.out.setCell (aD _) _).setCell (aD _) _).alloc (by simp [fN.out.size]) _⟩
theorem zo(x y d:Int)(w:aE):(vk true 10000 148 (dM #[aF aG x,aF aG y,aF aG d])).run aC w=.ok () w:=by kernel_rfl
theorem kt(x y:Int)(w:aE):(vk true 10000 146 (dM #[aF aG x,aF aG y])).run aC w=.ok () w:=by kernel_rfl
theorem und_sb(w:aE):(underlying 133).run aC w=.ok (.map 146 4) w:=by kernel_rfl
theorem und_wb(w:aE):(underlying 141).run aC w=.ok (.map 148 4) w:=by kernel_rfl
theorem zer_b(w:aE):(zeroValue 4).run aC w=.ok (aM false) w:=by kernel_rfl
theorem Me{w:aE}{b:Nat}{es:Array MapEntry}{c:Nat}(h:w.heap[b]? =some (.map es c)):(getObj b).run aC w=.ok (.map es c) w:=by simp[getObj,Sem.run,h]
theorem ku(k:bB)(w:aE):(Instr.findKey 148 k []).run aC w=.ok none w:=by kernel_rfl
theorem Zp(k:bB)(w:aE):(Instr.findKey 146 k []).run aC w=.ok none w:=by kernel_rfl
theorem zp{w:aE}{b c:Nat}(h:w.heap[b]? =some (.map #[] c))(x y d:Int):(Ij 141 (.map (some b)) (dM #[aF aG x,aF aG y,aF aG d]) false).run aC w=.ok (aM false) w:=by
 simp[Ij,Sem.run_bind,und_wb,sf,Me h,zo,ku,zer_b]
theorem zr{w:aE}{b c:Nat}(h:w.heap[b]? =some (.map #[] c))(x y:Int):(Ij 133 (.map (some b)) (dM #[aF aG x,aF aG y]) false).run aC w=.ok (aM false) w:=by
 simp[Ij,Sem.run_bind,und_sb,sf,Me h,kt,Zp,zer_b]
theorem kv(f:bB)(w:aE):aQ aC 232 #[aB none 0 0,aF aG 0,aF aG 0,f] w fun e w'=>(∃v,e=aO v)∧aJ w.heap.size w w':=by
 go_enter func232,ntmps232;go_wp2;go_loop [8] (fun i=>i=aF aG 1) (fun _=>0);case atStart=>rfl
 case round=>
  obtain rfl:=hrel;go_wp2;go_end0;exact⟨⟨_,rfl⟩,aI _ _⟩
theorem Zq(f:bB)(w:aE):aQ aC 177 #[aB none 0 0,aF aG 0,f] w fun e w'=>(∃v,e=aO v)∧aJ w.heap.size w w':=by
 have HI:=zq (fun W=>kv f W);go_enter func177,ntmps177;go_wp2;go_loop [7,8] (fun a b=>a=aF aG 0∧b=aF aG 20) (fun _ _=>0);case atStart=>exact⟨rfl,rfl⟩
 case round=>
  obtain⟨rfl,rfl⟩:=hrel;go_wp2_with fail
  refine(HI.out _).mono ?_;rintro e W1⟨⟨v,rfl⟩,hb1⟩;have fK:=zq hb1;clear hb1;go_wp2;go_loopw[6] (fun a wr=>a=aF aG 20∧aY (aJ w.heap.size w wr)) (fun _ _=>0);case atStart=>exact⟨rfl,fK.out⟩
  case round=>
   obtain⟨rfl,HB⟩:=hrel;go_wp2;go_end0;exact⟨⟨_,rfl⟩,HB.out⟩
theorem Zr(f:bB)(w:aE):aQ aC 118 #[aB none 0 0,f] w fun e w'=>(∃v,e=aO v)∧aJ w.heap.size w w':=by
 have HI:=zq (fun W=>Zq f W);go_enter func118,ntmps118;go_wp2_with fail
 refine(HI.out _).mono ?_;rintro e W1⟨⟨v,rfl⟩,hb1⟩;have fK:=zq hb1;clear hb1;go_wp2;go_end0;exact⟨⟨_,rfl⟩,fK.out⟩
theorem Nm(a b:Option dE)(n m ca cb:Nat)(w:aE):aQ aC 60 #[dM #[aB a n ca,aB b m cb],aB none 0 0] w (Rt (aB none 0 0) w):=by
 have mE:=zq ((aI w.heap.size w).alloc (aD _) (aL #[aB a n ca,aB b m cb] 58));obtain⟨W0,iU⟩:∃W,w.alloc (aL #[aB a n ca,aB b m cb] 58)=W:=⟨_,rfl⟩;rw[iU]at mE;have HI:=zq (fun W v=>Zr v W);go_enter func60,ntmps60;go_wp2;try rw[iU]
 clear iU;go_loop [5,12] (fun o i=>o=aB none 0 0∧i=aF aG 0) (fun _ _=>0);case atStart=>exact⟨rfl,rfl⟩
 case round=>
  obtain⟨rfl,rfl⟩:=hrel;go_wp2_with fail
  refine(HI.out _ _).mono ?_;rintro e W1⟨⟨v,rfl⟩,hb1⟩;have fK:=zq (aT mE.out hb1);clear hb1;go_wp2;go_ret;exact⟨rfl,fK.out⟩
theorem SO(x:Int)(u:Bool)(w:aE):aQ aC 168 #[dM #[aF aG x,aF aG x],aM u] w (Rt (aF aG x) w):=by
 have mE:=zq ((aI w.heap.size w).alloc (aD _) (aL #[aF aG x,aF aG x] 146));obtain⟨e0,e1,-,-,lT⟩:=(bZ.new w #[aF aG x,aF aG x] 146).two;obtain⟨W0,iU⟩:∃W,w.alloc (aL #[aF aG x,aF aG x] 146)=W:=⟨_,rfl⟩;rw[iU]at mE e0 e1 lT;cases u<;>
 ·go_enter func168,ntmps168;go_upto_if 5 with(fail);try rw[iU]
  go_wp2;go_ret;exact⟨rfl,mE.out⟩
def Ih(W:aE)(G:Nat)(xs ys:bB):Prop:=
 ∃m2 m3 m4:Nat,bZ W G #[xs,ys,.map (some m2),.map (some m3),.map (some m4)] 135∧(∃c,W.heap[m2]? =some (.map #[] c))∧(∃c,W.heap[m3]? =some (.map #[] c))∧(∃c,W.heap[m4]? =some (.map #[] c))
def wZ(fs:List Fr)(at':List (List UInt8))(p q:Pt):Bool:=
 if((fs.getD p.side.toNat default).up !=(fs.getD q.side.toNat default).up)=true then
  (p.en==at'.getD q.side.toNat [])&&(q.fr==at'.getD p.side.toNat [])
 else((fs.getD p.side.toNat default).dir==(fs.getD q.side.toNat default).dir)&&(p.en==q.fr)&&(at'.getD p.side.toNat []==at'.getD q.side.toNat [])
theorem Dd(x y:List UInt8):((bs x).toList==(bs y).toList)=(x==y):=by
 rw[cI,cI,aX,aX]
def IK(w W:aE)(g h:Nat)(pc qc fc gc:Array bB):Prop:=
 bZ W w.heap.size pc 46∧bZ W (w.heap.size+1) qc 46∧bZ W g fc 44∧bZ W h gc 44∧aJ w.heap.size w W
theorem Vy(w:aE)(pc qc fc gc:Array bB):IK w ((((w.alloc (aL pc 46)).alloc (aL qc 46)).alloc (aL fc 44)).alloc (aL gc 44)) (w.heap.size+1+1) (w.heap.size+1+1+1) pc qc fc gc:=by
 refine⟨(((bZ.new w _ _).alloc _).alloc _).alloc _,?_,?_,?_,((((aI _ w).alloc (aD _) _).alloc (by simp) _).alloc (by simp;omega) _).alloc (by simp;omega) _⟩
 ·have:=bZ.new (w.alloc (aL pc 46)) qc 46;rw[aS]at this;exact(this.alloc _).alloc _
 ·have:=bZ.new ((w.alloc (aL pc 46)).alloc (aL qc 46)) fc 44;rw[aS,aS]at this;exact this.alloc _
 ·have:=bZ.new (((w.alloc (aL pc 46)).alloc (aL qc 46)).alloc (aL fc 44)) gc 44;rwa[aS,aS,aS]at this
theorem joint2(w:aE)(pc qc fc gc:Array bB):IK w ((((w.alloc (aL pc 46)).alloc (aL qc 46)).alloc (aL gc 44)).alloc (aL fc 44)) (w.heap.size+1+1+1) (w.heap.size+1+1) pc qc fc gc:=by
 obtain⟨a,b,c,d,e⟩:=Vy w pc qc gc fc;exact⟨a,b,d,c,e⟩
theorem IK.drew{w W:aE}{g h:Nat}{pc qc fc gc:Array bB}(k:IK w W g h pc qc fc gc):IK w W.drew g h pc qc fc gc:=⟨k.1,k.2.1,k.2.2.1,k.2.2.2.1,k.2.2.2.2.drew⟩
theorem bZ.three{W:aE}{b:Nat}{x y z:bB}{T:TypeId}(h:bZ W b #[x,y,z] T):W.cell? ⟨b,0,none⟩=some x∧W.cell? ⟨b,1,none⟩=some y∧W.cell? ⟨b,2,none⟩=some z:=⟨h.cell 0,h.cell 1,h.cell 2⟩
theorem Vz(a b:Option dE)(n ca cb:Nat)(fs:List Fr)(at':List (List UInt8))(p q:Pt)(s t:Nat)(w:aE)
 (hs:p.side=s)(ht:q.side=t)(BQ:s<n)(QP:t<n)(hf:fs.length=n)(hl:at'.length=n)(rf:wP w a fs)(ra:xO w b at'):
 aQ aC 133 #[aB a n ca,aB b n cb,p.v,q.v] w (Rt (aM (wZ fs at' p q)) w):=by
 obtain⟨b1,o1,rfl,c0,c1,c2,c3,c4⟩:=rf.at (i:=s) (by omega) rfl;obtain⟨b1',o1',e1,d0,d1,d2,d3,d4⟩:=rf.at (i:=t) (by omega) rfl;injection e1 with e1;injection e1 with e1 e2;subst e1 e2;obtain⟨b2,o2,rfl,k0⟩:=ra s (by omega);obtain⟨b2',o2',e1,k1⟩:=ra t (by omega);injection e1 with e1;injection e1 with e1 e2;subst e1 e2;obtain⟨ps,pf,pt⟩:=p;obtain⟨qs,qf,qt⟩:=q;obtain rfl:ps=s:=hs;obtain rfl:qs=t:=ht;have R:aY (wZ fs at' ⟨s,pf,pt⟩ ⟨t,qf,qt⟩=if((fs.getD s default).up !=(fs.getD t default).up)=true then(pt==at'.getD t [])&&(qf==at'.getD s [])
  else((fs.getD s default).dir==(fs.getD t default).dir)&&(pt==qf)&&(at'.getD s []==at'.getD t [])):=rfl
 have l1:b1<w.heap.size:=bF w ⟨b1,o1+s*5,none⟩ c0;have l2:b2<w.heap.size:=bF w ⟨b2,o2+s,none⟩ k0;have u1:∀k,b1<w.heap.size+k:=fun k=>by omega
 have u2:∀k,b2<w.heap.size+k:=fun k=>by omega
 have v1:∀k,¬b1=w.heap.size+k:=fun k=>by omega
 have v2:∀k,¬b2=w.heap.size+k:=fun k=>by omega
 have v3:¬b1=w.heap.size:=by omega
 have v4:¬b2=w.heap.size:=by omega
 rw[←Dd pt,←Dd qf,←Dd pt,←Dd (at'.getD s [])]at R;generalize fs.getD s default=f at *;generalize fs.getD t default=g at *;unfold Pt.v Pt.cells;simp only[];generalize wZ fs at' ⟨s,pf,pt⟩ ⟨t,qf,qt⟩=J at *;generalize bs (at'.getD s [])=As at *;generalize bs (at'.getD t [])=At at *;generalize bs pf=PF at *;generalize bs pt=PT at *;generalize bs qf=QF at *;generalize bs qt=QT at *;obtain⟨uM,yX,kX,DX,KI⟩:=f;obtain⟨Fi,PL,Au,kw,lf⟩:=g;simp only[]at *;generalize bs DX=FSP at *;generalize bs KI=FST at *;generalize bs kw=GSP at *;generalize bs lf=GST at *;obtain⟨x1,hx1⟩:∃x,(PT.toList==At.toList)=x:=⟨_,rfl⟩;obtain⟨x2,hx2⟩:∃x,(QF.toList==As.toList)=x:=⟨_,rfl⟩;obtain⟨x3,hx3⟩:∃x,(PT.toList==QF.toList)=x:=⟨_,rfl⟩;obtain⟨x4,hx4⟩:∃x,(As.toList==At.toList)=x:=⟨_,rfl⟩;obtain⟨x5,hx5⟩:∃x,(kX==Au)=x:=⟨_,rfl⟩;rw[hx1,hx2,hx3,hx4,hx5]at R;clear rf ra hf hl;go_enter func133,ntmps133;go_upto_region 1 with fail
 go_cut[9,10] (fun x y W=>∃g h:Nat,x=cB (some ⟨g,0,none⟩)∧y=cB (some ⟨h,0,none⟩)∧aY (IK w W g h (#[aF aG s,aA PF,aA PT]) (#[aF aG t,aA QF,aA QT]) (#[aM uM,aF aG yX,aF aG kX,aA FSP,aA FST]) (#[aM Fi,aF aG PL,aF aG Au,aA GSP,aA GST])));case first =>
  go_region;all_goals
   go_wp2;go_meet;case rel=>first |exact⟨_,_,rfl,rfl,(Vy _ _ _ _ _).drew⟩|exact⟨_,_,rfl,rfl,(joint2 _ _ _ _ _).drew⟩
 case rest=>
 obtain⟨g',h',rfl,rfl,HJ⟩:=hcut;have hB:=zq HJ.out.2.2.2.2;obtain⟨p0,p1,p2⟩:=HJ.out.1.three;obtain⟨q0,q1,q2⟩:=HJ.out.2.1.three;obtain⟨f0,f1,f2,f3,f4⟩:=HJ.out.2.2.1.front;obtain⟨g0,g1,g2,g3,g4⟩:=HJ.out.2.2.2.1.front;have c0:=bV hB.out k0;have c1:=bV hB.out k1;clear k0 k1 u1 u2 v1 v2 v3 v4 l1 l2;cases uM<;>cases Fi;case' false.true=>have R:aY (J=(x1&&x2)):=R
 case' true.false=>have R:aY (J=(x1&&x2)):=R
 case' false.false=>have R:aY (J=(x5&&x3&&x4)):=R
 case' true.true=>have R:aY (J=(x5&&x3&&x4)):=R
 case false.true|true.false=>
  obtain rfl:=R.out;clear R hx3 hx4 hx5;cases x1;all_goals
   go_wp2;go_quiet (fail)
   go_wp2;go_ret;exact⟨by first |rfl|(simp;done),bH hB.out _⟩
 all_goals
  obtain rfl:=R.out;clear R;cases x5;case' true=>cases x3
  all_goals
   go_wp2;go_quiet (fail)
   go_wp2;go_ret;exact⟨by first |rfl|(simp;done),bH hB.out _⟩
def IL(w W:aE)(g h:Nat)(tc pc qc fc gc:Array bB):Prop:=
 bZ W w.heap.size tc 58∧bZ W (w.heap.size+1) pc 46∧bZ W (w.heap.size+1+1) qc 46∧bZ W g fc 44∧bZ W h gc 44∧aJ w.heap.size w W
theorem XD(w:aE)(tc pc qc fc gc:Array bB):IL w (((((w.alloc (aL tc 58)).alloc (aL pc 46)).alloc (aL qc 46)).alloc (aL fc 44)).alloc (aL gc 44)) (w.heap.size+1+1+1) (w.heap.size+1+1+1+1) tc pc qc fc gc:=by
 obtain⟨a,b,c,d,e⟩:=Vy (w.alloc (aL tc 58)) pc qc fc gc;rw[aS]at a b c d e;exact⟨((((bZ.new w _ _).alloc _).alloc _).alloc _).alloc _,a,b,c,d,((aI _ w).alloc (aD _) _).trans (e.mono (by omega))⟩
theorem zt(w:aE)(tc pc qc fc gc:Array bB):IL w (((((w.alloc (aL tc 58)).alloc (aL pc 46)).alloc (aL qc 46)).alloc (aL gc 44)).alloc (aL fc 44)) (w.heap.size+1+1+1+1) (w.heap.size+1+1+1) tc pc qc fc gc:=by
 obtain⟨a,b,c,d,e,f⟩:=XD w tc pc qc gc fc;exact⟨a,b,c,e,d,f⟩
theorem IL.drew{w W:aE}{g h:Nat}{tc pc qc fc gc:Array bB}(k:IL w W g h tc pc qc fc gc):IL w W.drew g h tc pc qc fc gc:=⟨k.1,k.2.1,k.2.2.1,k.2.2.2.1,k.2.2.2.2.1,k.2.2.2.2.2.drew⟩
theorem lh{f g:Fr}(hf:f.dir=1∨f.dir= -1)(hg:g.dir=1∨g.dir= -1)(hu:f.up=g.up):(nD f==nD g)=(f.dir==g.dir):=by
 unfold nD;rw[hu];cases g.up<;>rcases hf with e|e<;>rcases hg with e2|e2<;>rw[e,e2]<;>decide
theorem Zs(a b:Option dE)(n ca cb:Nat)(fs:List Fr)(at':List (List UInt8))(p q:Pt)(s t:Nat)(w:aE)
 (hdir:∀f∈fs,f.dir=1∨f.dir= -1)(hs:p.side=s)(ht:q.side=t)(BQ:s<n)(QP:t<n)(hf:fs.length=n)(hl:at'.length=n)(rf:wP w a fs)(ra:xO w b at'):
 aQ aC 125 #[dM #[aB a n ca,aB b n cb],p.v,q.v] w (Rt (aM (wZ fs at' p q)) w):=by
 obtain⟨b1,o1,rfl,c0,c1,c2,c3,c4⟩:=rf.at (i:=s) (by omega) rfl;obtain⟨b1',o1',e1,d0,d1,d2,d3,d4⟩:=rf.at (i:=t) (by omega) rfl;injection e1 with e1;injection e1 with e1 e2;subst e1 e2;obtain⟨b2,o2,rfl,k0⟩:=ra s (by omega);obtain⟨b2',o2',e1,k1⟩:=ra t (by omega);injection e1 with e1;injection e1 with e1 e2;subst e1 e2;obtain⟨ps,pf,pt⟩:=p;obtain⟨qs,qf,qt⟩:=q;obtain rfl:ps=s:=hs;obtain rfl:qs=t:=ht;have R:aY (wZ fs at' ⟨s,pf,pt⟩ ⟨t,qf,qt⟩=if((fs.getD s default).up !=(fs.getD t default).up)=true then(pt==at'.getD t [])&&(qf==at'.getD s [])
  else((fs.getD s default).dir==(fs.getD t default).dir)&&(pt==qf)&&(at'.getD s []==at'.getD t [])):=rfl
 have l1:b1<w.heap.size:=bF w ⟨b1,o1+s*5,none⟩ c0;have l2:b2<w.heap.size:=bF w ⟨b2,o2+s,none⟩ k0;have u1:∀k,b1<w.heap.size+k:=fun k=>by omega
 have u2:∀k,b2<w.heap.size+k:=fun k=>by omega
 have v1:∀k,¬b1=w.heap.size+k:=fun k=>by omega
 have v2:∀k,¬b2=w.heap.size+k:=fun k=>by omega
 have v3:¬b1=w.heap.size:=by omega
 have v4:¬b2=w.heap.size:=by omega
 have hdf:=hdir _ (cP (by rw[hf];exact BQ) default);have Ur:=hdir _ (cP (by rw[hf];exact QP) default);clear hdir;rw[←Dd pt,←Dd qf,←Dd pt,←Dd (at'.getD s [])]at R;generalize fs.getD s default=f at *;generalize fs.getD t default=g at *;unfold Pt.v Pt.cells;simp only[];generalize wZ fs at' ⟨s,pf,pt⟩ ⟨t,qf,qt⟩=J at *;generalize bs (at'.getD s [])=As at *;generalize bs (at'.getD t [])=At at *;generalize bs pf=PF at *;generalize bs pt=PT at *;generalize bs qf=QF at *;generalize bs qt=QT at *;have Fb:=zq (fun W=>qL f W);have Ew:=zq (fun W=>qL g W);have HDD:aY (f.up=g.up→(nD f==nD g)=(f.dir==g.dir)):=lh hdf Ur;clear hdf Ur;generalize nD f=D1 at *;generalize nD g=D2 at *;unfold Fr.v Fr.cells at Fb Ew;obtain⟨uM,yX,kX,DX,KI⟩:=f;obtain⟨Fi,PL,Au,kw,lf⟩:=g;simp only[]at *;generalize bs DX=FSP at *;generalize bs KI=FST at *;generalize bs kw=GSP at *;generalize bs lf=GST at *;obtain⟨x1,hx1⟩:∃x,(PT.toList==At.toList)=x:=⟨_,rfl⟩;obtain⟨x2,hx2⟩:∃x,(QF.toList==As.toList)=x:=⟨_,rfl⟩;obtain⟨x3,hx3⟩:∃x,(PT.toList==QF.toList)=x:=⟨_,rfl⟩;obtain⟨x4,hx4⟩:∃x,(As.toList==At.toList)=x:=⟨_,rfl⟩;obtain⟨x5,hx5⟩:∃x,(kX==Au)=x:=⟨_,rfl⟩;rw[hx1,hx2,hx3,hx4,hx5]at R;clear rf ra hf hl;go_enter func125,ntmps125;go_upto_region 1 with fail
 go_cut[7,8] (fun x y W=>∃g h:Nat,x=cB (some ⟨g,0,none⟩)∧y=cB (some ⟨h,0,none⟩)∧aY (IL w W g h (#[aB (some ⟨b1,o1,none⟩) n ca,aB (some ⟨b2,o2,none⟩) n cb]) (#[aF aG s,aA PF,aA PT]) (#[aF aG t,aA QF,aA QT]) (#[aM uM,aF aG yX,aF aG kX,aA FSP,aA FST]) (#[aM Fi,aF aG PL,aF aG Au,aA GSP,aA GST])));case first =>
  go_region;all_goals
   go_wp2;go_meet;case rel=>first |exact⟨_,_,rfl,rfl,(XD _ _ _ _ _ _).drew⟩|exact⟨_,_,rfl,rfl,(zt _ _ _ _ _ _).drew⟩
 case rest=>
 obtain⟨g',h',rfl,rfl,HJ⟩:=hcut;have hB:=zq HJ.out.2.2.2.2.2;have t0:=HJ.out.1.cell 0;have t1:=HJ.out.1.cell 1;simp only[List.getElem?_toArray,List.getElem?_cons_zero,List.getElem?_cons_succ]at t0 t1;obtain⟨p0,p1,p2⟩:=HJ.out.2.1.three;obtain⟨q0,q1,q2⟩:=HJ.out.2.2.1.three;obtain⟨f0,f1,f2,f3,f4⟩:=HJ.out.2.2.2.1.front;obtain⟨g0,g1,g2,g3,g4⟩:=HJ.out.2.2.2.2.1.front;have c0:=bV hB.out k0;have c1:=bV hB.out k1;clear k0 k1 u1 u2 v1 v2 v3 v4 l1 l2;cases hu:(uM !=Fi);case true=>
  obtain rfl:J=(x1&&x2):=by rw[R.out,hu];rfl
  have hv:(!uM==Fi)=true:=by rw[←hu];cases uM<;>cases Fi<;>rfl
  clear R hx3 hx4 hx5;cases x1;all_goals
   go_wp2;go_quiet (fail)
   go_wp2;go_ret;exact⟨by first |rfl|(simp;done),bH hB.out _⟩
 case false=>
  obtain rfl:J=(x5&&x3&&x4):=by rw[R.out,hu];rfl
  have hv:(!uM==Fi)=false:=by rw[←hu];cases uM<;>cases Fi<;>rfl
  have hdd:(D1==D2)=x5:=by rw[←hx5];exact HDD.out (by simpa using hu)
  clear R hx5 hx1 hx2;go_wp2;refine wp_region_held_drew (S:=fun w'=>(w'.cell? ⟨g',0,none⟩=some (aM uM)∧w'.cell? ⟨g',1,none⟩=some (aF aG yX)∧w'.cell? ⟨g',2,none⟩=some (aF aG kX)∧w'.cell? ⟨g',3,none⟩=some (aA FSP)∧w'.cell? ⟨g',4,none⟩=some (aA FST))∧(w'.cell? ⟨h',0,none⟩=some (aM Fi)∧w'.cell? ⟨h',1,none⟩=some (aF aG PL)∧w'.cell? ⟨h',2,none⟩=some (aF aG Au)∧w'.cell? ⟨h',3,none⟩=some (aA GSP)∧w'.cell? ⟨h',4,none⟩=some (aA GST))∧(w'.cell? ⟨w.heap.size,0,none⟩=some (aB (some ⟨b1,o1,none⟩) n ca)∧w'.cell? ⟨w.heap.size,1,none⟩=some (aB (some ⟨b2,o2,none⟩) n cb))∧(w'.cell? ⟨w.heap.size+1,0,none⟩=some (aF aG s)∧w'.cell? ⟨w.heap.size+1,1,none⟩=some (aA PF)∧w'.cell? ⟨w.heap.size+1,2,none⟩=some (aA PT))∧(w'.cell? ⟨w.heap.size+1+1,0,none⟩=some (aF aG t)∧w'.cell? ⟨w.heap.size+1+1,1,none⟩=some (aA QF)∧w'.cell? ⟨w.heap.size+1+1,2,none⟩=some (aA QT))∧w'.cell? ⟨b2,o2+s,none⟩=some (aA As)∧w'.cell? ⟨b2,o2+t,none⟩=some (aA At)) (by kernel_rfl) ?_ (fun wF=>?_)
  ·(try dsimp only);go_keep
  refine tH 0 rfl ?_;refine tH 2 rfl ?_;try simp only[eC,bC,bA,aZ,aU,bK,bG]
  refine xY (rs:=[1]) (by kernel_rfl) (by simp) ?_;refine mH rfl (fun K hK=>?_) nG;go_simp;with_reducible refine(Fb.out _).mono ?_
  rintro e w1⟨rfl,hb1⟩;have IM:=zq (aT hB.out.drew hb1);have:=ck hb1 g' 0 (aM uM);have:=ck hb1 g' 1 (aF aG yX);have:=ck hb1 g' 2 (aF aG kX);have:=ck hb1 g' 3 (aA FSP);have:=ck hb1 g' 4 (aA FST);have:=ck hb1 h' 0 (aM Fi);have:=ck hb1 h' 1 (aF aG PL);have:=ck hb1 h' 2 (aF aG Au);have:=ck hb1 h' 3 (aA GSP);have:=ck hb1 h' 4 (aA GST);have:=ck hb1 w.heap.size 0 (aB (some ⟨b1,o1,none⟩) n ca);have:=ck hb1 w.heap.size 1 (aB (some ⟨b2,o2,none⟩) n cb);have:=ck hb1 (w.heap.size+1) 0 (aF aG s);have:=ck hb1 (w.heap.size+1) 1 (aA PF);have:=ck hb1 (w.heap.size+1) 2 (aA PT);have:=ck hb1 (w.heap.size+1+1) 0 (aF aG t);have:=ck hb1 (w.heap.size+1+1) 1 (aA QF);have:=ck hb1 (w.heap.size+1+1) 2 (aA QT);have ka:=bV hb1 (p:=⟨b2,o2+s,none⟩) (v:=aA As) (by simp[*]);have kb:=bV hb1 (p:=⟨b2,o2+t,none⟩) (v:=aA At) (by simp[*]);show K _ _;refine hK.out _ _ ?_ (fun wF=>?_)
  ·(try dsimp only);go_keep
  clear hK K;try simp only[eC,bC,bA,aZ,aU,bK,bG]
  refine xY (rs:=[3]) (by kernel_rfl) (by simp) ?_;refine mH rfl (fun K hK=>?_) nG;go_simp;with_reducible refine(Ew.out _).mono ?_
  rintro e w2⟨rfl,hb2⟩;have hBd2:=zq (aT IM.out hb2);have:=ck hb2 g' 0 (aM uM);have:=ck hb2 g' 1 (aF aG yX);have:=ck hb2 g' 2 (aF aG kX);have:=ck hb2 g' 3 (aA FSP);have:=ck hb2 g' 4 (aA FST);have:=ck hb2 h' 0 (aM Fi);have:=ck hb2 h' 1 (aF aG PL);have:=ck hb2 h' 2 (aF aG Au);have:=ck hb2 h' 3 (aA GSP);have:=ck hb2 h' 4 (aA GST);have:=ck hb2 w.heap.size 0 (aB (some ⟨b1,o1,none⟩) n ca);have:=ck hb2 w.heap.size 1 (aB (some ⟨b2,o2,none⟩) n cb);have:=ck hb2 (w.heap.size+1) 0 (aF aG s);have:=ck hb2 (w.heap.size+1) 1 (aA PF);have:=ck hb2 (w.heap.size+1) 2 (aA PT);have:=ck hb2 (w.heap.size+1+1) 0 (aF aG t);have:=ck hb2 (w.heap.size+1+1) 1 (aA QF);have:=ck hb2 (w.heap.size+1+1) 2 (aA QT);have ka:=bV hb2 (p:=⟨b2,o2+s,none⟩) (v:=aA As) (by simp[*]);have kb:=bV hb2 (p:=⟨b2,o2+t,none⟩) (v:=aA At) (by simp[*]);show K _ _;refine hK.out _ _ ?_ (fun wF=>?_)
  ·(try dsimp only);go_keep
  clear hK K;refine tH 4 rfl ?_;refine tH 5 rfl ?_;cases x5;case false=>
   refine sH 6 rfl ?_;refine sH 7 rfl ?_;refine sH 8 rfl ?_;refine sH 9 rfl ?_;refine sH 10 rfl ?_;refine tH 11 rfl ?_;refine tH 12 rfl ?_;refine sH 13 rfl ?_;refine sH 14 rfl ?_;refine sH 15 rfl ?_;refine sH 16 rfl ?_;refine sH 17 rfl ?_;refine sH 18 rfl ?_;refine sH 19 rfl ?_;refine sH 20 rfl ?_;refine sH 21 rfl ?_;refine sH 22 rfl ?_;refine sH 23 rfl ?_;refine sH 24 rfl ?_;refine sH 25 rfl ?_;refine tH 26 rfl ?_;refine tH 27 rfl ?_;try simp only[eC,bC,bA,aZ,aU,bK,bG]
   refine MN (by kernel_rfl) ?_ _;go_wp2;go_ret;exact⟨by first |rfl|(simp;done),hBd2.out⟩
  case true=>
   refine tH 6 rfl ?_;refine tH 7 rfl ?_;refine tH 8 rfl ?_;refine tH 9 rfl ?_;refine tH 10 rfl ?_;refine tH 11 rfl ?_;refine tH 12 rfl ?_;cases x3;case false=>
    refine sH 13 rfl ?_;refine sH 14 rfl ?_;refine sH 15 rfl ?_;refine sH 16 rfl ?_;refine sH 17 rfl ?_;refine sH 18 rfl ?_;refine sH 19 rfl ?_;refine sH 20 rfl ?_;refine sH 21 rfl ?_;refine sH 22 rfl ?_;refine sH 23 rfl ?_;refine sH 24 rfl ?_;refine sH 25 rfl ?_;refine tH 26 rfl ?_;refine tH 27 rfl ?_;try simp only[eC,bC,bA,aZ,aU,bK,bG]
    refine MN (by kernel_rfl) ?_ _;go_wp2;go_ret;exact⟨by first |rfl|(simp;done),hBd2.out⟩
   case true=>
    refine tH 13 rfl ?_;refine tH 14 rfl ?_;refine tH 15 rfl ?_;refine tH 16 rfl ?_;refine tH 17 rfl ?_;refine tH 18 rfl ?_;refine tH 19 rfl ?_;refine tH 20 rfl ?_;refine tH 21 rfl ?_;refine tH 22 rfl ?_;refine tH 23 rfl ?_;refine tH 24 rfl ?_;refine tH 25 rfl ?_;refine tH 26 rfl ?_;refine tH 27 rfl ?_;try simp only[eC,bC,bA,aZ,aU,bK,bG]
    refine MN (by kernel_rfl) ?_ _;go_wp2;go_ret;exact⟨by first |rfl|(simp;done),hBd2.out⟩
def wG(fs:List Fr)(p:Pt):Int:=(gY p.en p.fr).1*yW (fs.getD p.side.toNat default)
def yY(fs:List Fr)(right:Bool)(p:Pt):Bool:=
 decide (0≤p.side)&&decide (p.side<fs.length)&&decide (dR p.fr=0)&&decide (dR p.en=0)&&(!decide (wG fs p<0)&& !(right &&decide (wG fs p=0)))
def Ec (fs:List Fr) (right:Bool) (ps:List Pt):Nat→Bool:=fun i=> !yY fs right (ps.getD i default)
def Cn(fs:List Fr)(at':List (List UInt8))(ps:List Pt):Nat→Bool:=fun i=> !wZ fs at' (ps.getD i default) (ps.getD ((i+1)%ps.length) default)
def fG(fs:List Fr)(at':List (List UInt8))(ps:List Pt)(right:Bool):Bool:=
 decide (4≤ps.length)&& !anyN (Ec fs right ps) ps.length&& !anyN (Cn fs at' ps) ps.length
theorem JL{fs:List Fr}{at':List (List UInt8)}{ps:List Pt}{right:Bool}(h:ps.length<4):fG fs at' ps right =false:=by
 unfold fG;rw[decide_eq_false (by omega)];rfl
theorem Mf {fs:List Fr} {at' :List (List UInt8)} {ps:List Pt} {right:Bool} {i:Nat} (hi:i < ps.length) (h:yY fs right (ps.getD i default)=false):fG fs at' ps right=false:=by
 unfold fG;rw [show anyN (Ec fs right ps) ps.length=true from kA.2 ⟨i,hi,by unfold Ec;rw [h];rfl⟩];simp
theorem Mg{fs:List Fr}{at':List (List UInt8)}{ps:List Pt}{right:Bool}{i:Nat}(hi:i<ps.length)(h:wZ fs at' (ps.getD i default) (ps.getD ((i+1)%ps.length) default)=false):fG fs at' ps right =false:=by
 unfold fG;rw[show anyN (Cn fs at' ps) ps.length=true from kA.2 ⟨i,hi,by unfold Cn;rw[h];rfl⟩];simp
theorem SQ{fs:List Fr}{at':List (List UInt8)}{ps:List Pt}{right:Bool}(h4:¬ps.length<4)(h1:anyN (Ec fs right ps) ps.length=false)(h2:anyN (Cn fs at' ps) ps.length=false):fG fs at' ps right =true:=by
 unfold fG;rw[decide_eq_true (by omega),h1,h2];rfl
theorem IP {fs:List Fr} {right:Bool} {ps:List Pt} {n i:Nat} (h:anyN (Ec fs right ps) n=false) (hi:i < n):yY fs right (ps.getD i default)=true:=by
 have:=lU.1 h i hi;unfold Ec at this;simpa using this
theorem Fj{fs:List Fr}{right:Bool}{p:Pt}(h:yY fs right p=true):∃s:Nat,p.side=s∧s<fs.length:=by
 unfold yY at h;simp only[Bool.and_eq_true,decide_eq_true_eq]at h;exact⟨p.side.toNat,by omega,by omega⟩
theorem li(s t:List UInt8): -1≤(gY s t).1∧(gY s t).1≤1:=by
 unfold gY;split
 ·split
  ·rcases rY (cF s) (cF t)with⟨_,h⟩|⟨_,h⟩|⟨_,h⟩<;>simp[h]
  ·simp
 ·simp
theorem zu{f:Fr}(h:f.dir=1∨f.dir= -1):yW f=1∨yW f= -1:=by
 unfold yW;cases f.up<;>rcases h with e|e<;>simp[e]
theorem KJ{fs:List Fr}(hdir:∀f∈fs,f.dir=1∨f.dir= -1){p:Pt}{s:Nat}(hs:p.side=s)(BQ:s<fs.length): -1≤wG fs p∧wG fs p≤1:=by
 unfold wG;have h1:=li p.en p.fr;have h2:=zu (hdir _ (cP (i:=p.side.toNat) (by omega) default));generalize(gY p.en p.fr).1=c at *;rcases h2 with e|e<;>rw[e]<;>omega
theorem SR{k n:Nat}(h:k<n):(k+1<n∧(k+1)%n=k+1)∨(k+1=n∧(k+1)%n=0):=by
 by_cases e:k+1<n
 ·exact .inl ⟨e,Nat.mod_eq_of_lt e⟩
 ·have:k+1=n:=by omega
  exact .inr ⟨this,by rw[this];exact Nat.mod_self n⟩
theorem xU(k n:Nat):((k:Int)+1).tmod (n:Int)=(((k+1)%n:Nat):Int):=by
 rw[Int.tmod_eq_emod_of_nonneg (by omega)];push_cast;rfl
theorem Zt (a b c:Option dE) (nf n ca cb cc:Nat) (fs:List Fr) (at' :List (List UInt8)) (ps:List Pt) (right:Bool) (w:aE) (hE:eZ w)
 (hf:fs.length=nf) (hl:at'.length=nf) (hp:ps.length=n) (hn:n≤1000000) (hdir:∀ f∈fs,f.dir=1∨f.dir= -1) (rV:∀ p∈ps,p.fr.length≤8000000∧p.en.length≤8000000)
 (rf:wP w a fs) (ra:xO w b at') (rp:Fg w c ps) :
 aQ aC 71 #[aB a nf ca,aB b nf cb,aB c n cc,aM right] w (Rt (aM (fG fs at' ps right)) w):=by
 have HS:aY (∀ s:List UInt8,s.length≤8000000→∀ W,aJ w.heap.size w W→aQ aC 52 #[aA (bs s)] W (Rt (aM (decide (dR s=0))) W)):=fun s hs W h=> by
  have:=IH (bs s) W (hE.below h) (by rw [bU];exact hs);rwa [aX] at this
 have HO:aY (∀ s t:List UInt8,s.length≤8000000→t.length≤8000000→∀ W,aJ w.heap.size w W→aQ aC 48 #[aA (bs s),aA (bs t)] W (Rt (aF aG (gY s t).1) W)):=fun s t hs ht W h=> by
  have:=A0 (bs s) (bs t) W (hE.below h) (by rw [bU];exact hs) (by rw [bU];exact ht);rwa [aX,aX] at this
 have HF:aY (∀ i,i < nf→∀ W,aQ aC 51 #[(fs.getD i default).v] W (Rt (aF aG (yW (fs.getD i default))) W)):=fun i hi W=> Dc _ (hdir _ (cP (by rw [hf];exact hi) default)) W;have HJ:aY (∀ p q:Pt,(∃ s:Nat,p.side=s∧s < nf)→(∃ s:Nat,q.side=s∧s < nf)→∀ W,aJ w.heap.size w W→aQ aC 133 #[aB a nf ca,aB b nf cb,p.v,q.v] W (Rt (aM (wZ fs at' p q)) W)):=by
  rintro p q ⟨s,hs,BQ⟩ ⟨t,ht,QP⟩ W h;exact Vz a b nf ca cb fs at' p q s t W hs ht BQ QP hf hl (rf.below h) (ra.below h)
 have HA:aY (∀ p:Pt,∀ s:Nat,p.side=s→s < nf→ -1≤wG fs p∧wG fs p≤1):=fun p s hs BQ=> KJ hdir hs (by rw [hf];exact BQ);have Hf:=zq hf;have Hp:=zq hp;have Rf:=zq rf;have Rp:=zq rp;have SS:aY (∀ i,i < n→(ps.getD i default).fr.length≤8000000∧(ps.getD i default).en.length≤8000000):=fun i hi=> rV _ (cP (by rw [hp];exact hi) default);have R1:aY (n < 4→fG fs at' ps right=false):=fun h=> JL (by rw [hp];exact h);have R2:aY (∀ i,i < n→yY fs right (ps.getD i default)=false→fG fs at' ps right=false):=fun i hi h=> Mf (by rw [hp];exact hi) h;have R3:aY (∀ i,i < n→wZ fs at' (ps.getD i default) (ps.getD ((i + 1) % n) default)=false→fG fs at' ps right=false):=fun i hi h=> Mg (by rw [hp];exact hi) (by rw [hp];exact h);have R4:aY (¬ n < 4→anyN (Ec fs right ps) n=false→anyN (Cn fs at' ps) n=false→fG fs at' ps right=true):=fun h1 h2 h3=> SQ (by rw [hp];exact h1) (by rw [hp];exact h2) (by rw [hp];exact h3);have R5:aY (∀ i,anyN (Ec fs right ps) n=false→i < n→∃ s:Nat,(ps.getD i default).side=s∧s < nf):=fun i h hi=> by
  have:=Fj (IP h hi);rwa [hf] at this
 have R6:aY (∀ i,Cn fs at' ps i= !wZ fs at' (ps.getD i default) (ps.getD ((i + 1) % n) default)):=fun i=> by unfold Cn;rw [hp]
 clear hE hf hl hp hdir rV rf ra rp;by_cases h4:n < 4
 ·have R:=zq (R1.out h4);go_enter func71,ntmps71;go_wp2;go_ret;exact⟨by rw [R.out] <;> rfl,aI _ w⟩
 ·go_enter func71,ntmps71;go_wp2;go_loopw [10] (fun i wr=> ∃ k:Nat,i=aF aG k∧k≤n∧aY (aJ w.heap.size w wr)∧aY (anyN (Ec fs right ps) k=false)) (fun i _=> n - (aK i).toNat);case atStart=> exact⟨0,rfl,bR _,aI _ w,rfl⟩
  case round=>
   obtain⟨k,rfl,hk,HB,hz⟩:=hrel;by_cases hlt:k < n
   ·obtain⟨pb,po,rfl,c0,c1,c2⟩:=(Rp.out.below HB.out).at (i:=k) (by rw [Hp.out];exact hlt) rfl;have Rk:=zq (R2.out k hlt);have kN:=SS.out k hlt;have HBb:=zq (fun (x:Pt)=> HB.out.alloc HB.out.size (aL #[aF aG x.side,aA (bs x.fr),aA (bs x.en)] 46));have lj:aY (yY fs right (ps.getD k default)=true→anyN (Ec fs right ps) (k + 1)=false):=fun h=> oZ hz.out (by unfold Ec;rw [h];rfl);have EA:aY (yY fs right (ps.getD k default)=(decide (0≤(ps.getD k default).side) && decide ((ps.getD k default).side < nf) && decide (dR (ps.getD k default).fr=0) && decide (dR (ps.getD k default).en=0) && (!decide (wG fs (ps.getD k default) < 0) && !(right && decide (wG fs (ps.getD k default)=0))))):=by
     show _=_;unfold yY;rw [Hf.out]
    generalize ps.getD k default=p at *;have Kk:=zq (HBb.out p);have qb:=bZ.new wr #[aF aG p.side,aA (bs p.fr),aA (bs p.en)] 46;have Qb:=zq qb;clear HBb qb hz;have Hc:=zq (HO.out p.en p.fr kN.2 kN.1);have bo:=zq (HS.out p.fr kN.1);have tt:=zq (HS.out p.en kN.2);have HAp:=zq (HA.out p);have br:aY (wG fs p=(gY p.en p.fr).1 * yW (fs.getD p.side.toNat default)):=rfl;generalize yY fs right p=PB at *;generalize wG fs p=AD at *;generalize (gY p.en p.fr).1=CC at *;clear kN;generalize decide (dR p.fr=0)=x1 at *;generalize decide (dR p.en=0)=x2 at *;obtain⟨side,fr,en⟩:=p;simp only [] at *;generalize bs fr=FR at *;generalize bs en=EN at *;by_cases g1:side < 0
    ·have R:aY (fG fs at' ps right=false):=Rk.out (by rw [EA.out,decide_eq_false (by omega)];rfl);go_wp2;go_ret;exact⟨by rw [R.out] <;> rfl,Kk.out⟩
    ·by_cases g2:(nf:Int)≤side
     ·have R:aY (fG fs at' ps right=false):=Rk.out (by rw [EA.out,decide_eq_false (p:=side < (nf:Int)) (by omega),QC];rfl);go_wp2;go_ret;exact⟨by rw [R.out] <;> rfl,Kk.out⟩
     ·obtain⟨s,rfl⟩:∃ s:Nat,side=s:=⟨side.toNat,by omega⟩;have BQ:s < nf:=by omega
      have EA:aY (PB=(x1 && x2 && (!decide (AD < 0) && !(right && decide (AD=0))))):=by
       show _=_;rw [EA.out,decide_eq_true (by omega),decide_eq_true (p:=(s:Int) < (nf:Int)) (by omega)];simp [Bool.and_assoc]
      cases x1 with
      | false=>
       have R:aY (fG fs at' ps right=false):=Rk.out (by rw [EA.out];rfl);clear g1 g2;go_wp2_with fail
       with_reducible refine(bo.out _ Kk.out).mono ?_
       rintro e W1 ⟨rfl,hb1⟩;go_wp2;go_ret;exact⟨by rw [R.out] <;> rfl,aT Kk.out hb1⟩
      | true=>
       clear g1 g2;go_wp2_with fail
       with_reducible refine(bo.out _ Kk.out).mono ?_
       rintro e W1 ⟨rfl,hb1⟩;have fK:=zq (aT Kk.out hb1);have Q1:=zq (Qb.out.below hb1 Qb.out.lt);obtain⟨e0,e1,e2⟩:=Q1.out.three;have el:=Q1.out.lt;clear hb1 bo;cases x2 with
       | false=>
        have R:aY (fG fs at' ps right=false):=Rk.out (by rw [EA.out];rfl);go_wp2_with fail
        with_reducible refine(tt.out _ fK.out).mono ?_
        rintro e W2 ⟨rfl,hb2⟩;go_wp2;go_ret;exact⟨by rw [R.out] <;> rfl,aT fK.out hb2⟩
       | true=>
        have EA:aY (PB=(!decide (AD < 0) && !(right && decide (AD=0)))):=EA;go_wp2_with fail
        with_reducible refine(tt.out _ fK.out).mono ?_
        rintro e W2 ⟨rfl,hb2⟩;have gD:=zq (aT fK.out hb2);have Q2:=zq (Q1.out.below hb2 Q1.out.lt);have hAb:=HAp.out s rfl BQ;rw [show((s:Int)).toNat=s from rfl] at br;have tu:=zq (HF.out s BQ);obtain⟨fb,fo,rfl,f0,f1,f2,f3,f4⟩:=(Rf.out.below gD.out).at (i:=s) (by rw [Hf.out];exact BQ) rfl;unfold Fr.v Fr.cells at tu;generalize fs.getD s default=f at *;generalize yW f=FW at *;obtain⟨uM,yX,kX,DX,KI⟩:=f;simp only [] at *;generalize bs DX=FSP at *;generalize bs KI=FST at *;obtain⟨e0,e1,e2⟩:=Q2.out.three;have el:=Q2.out.lt;have hw:IntKind.i64.wrap (CC * FW)=AD:=by rw [← br.out];exact aP _ (by omega)
        have HQ:=zq Q2.out;clear hb2 tt HAp br fK Q1 Q2 Qb Kk;go_wp2;go_cut [12] (fun v W=> v=aF aG AD∧aY (aJ W2.heap.size W2 W));case first=>
         go_region_held3 (fun w' => (w'.cell? ⟨wr.heap.size,0,none⟩=some (aF aG s)∧w'.cell? ⟨wr.heap.size,1,none⟩=some (aA FR)∧w'.cell? ⟨wr.heap.size,2,none⟩=some (aA EN))∧w'.cell? ⟨fb,fo + s * 5,none⟩=some (aM uM)∧w'.cell? ⟨fb,fo + s * 5 + 1,none⟩=some (aF aG yX)∧w'.cell? ⟨fb,fo + s * 5 + 2,none⟩=some (aF aG kX)∧w'.cell? ⟨fb,fo + s * 5 + 3,none⟩=some (aA FSP)∧w'.cell? ⟨fb,fo + s * 5 + 4,none⟩=some (aA FST)) (go_keep)
          (first
           | (go_at_call 48;with_reducible refine(Hc.out _ (by first | exact gD.out.drew | exact aT gD.out hBf)).mono ?_;rintro e w1 ⟨rfl,hb1⟩;have Uz:=aT (by first | exact hBf | exact(aI _ W2).drew) hb1;have:=ck hb1 wr.heap.size 0 (aF aG s);have:=ck hb1 wr.heap.size 1 (aA FR);have:=ck hb1 wr.heap.size 2 (aA EN);have m0:=bV hb1 (p:=⟨fb,fo + s * 5,none⟩) (v:=aM uM) (by simp [*]);have m1:=bV hb1 (p:=⟨fb,fo + s * 5 + 1,none⟩) (v:=aF aG yX) (by simp [*]);have m2:=bV hb1 (p:=⟨fb,fo + s * 5 + 2,none⟩) (v:=aF aG kX) (by simp [*]);have m3:=bV hb1 (p:=⟨fb,fo + s * 5 + 3,none⟩) (v:=aA FSP) (by simp [*]);have m4:=bV hb1 (p:=⟨fb,fo + s * 5 + 4,none⟩) (v:=aA FST) (by simp [*]))
           | (go_at_call 51;with_reducible refine(tu.out _).mono ?_;rintro e w1 ⟨rfl,hb1⟩;have hBf:=aT (by first | exact Uz | exact(aI _ W2).drew) hb1;have:=ck hb1 wr.heap.size 0 (aF aG s);have:=ck hb1 wr.heap.size 1 (aA FR);have:=ck hb1 wr.heap.size 2 (aA EN);have m0:=bV hb1 (p:=⟨fb,fo + s * 5,none⟩) (v:=aM uM) (by simp [*]);have m1:=bV hb1 (p:=⟨fb,fo + s * 5 + 1,none⟩) (v:=aF aG yX) (by simp [*]);have m2:=bV hb1 (p:=⟨fb,fo + s * 5 + 2,none⟩) (v:=aF aG kX) (by simp [*]);have m3:=bV hb1 (p:=⟨fb,fo + s * 5 + 3,none⟩) (v:=aA FSP) (by simp [*]);have m4:=bV hb1 (p:=⟨fb,fo + s * 5 + 4,none⟩) (v:=aA FST) (by simp [*])))
         all_goals
          go_wp2;go_meet;case rel=> exact⟨by first | rfl | rw [hw],by first | exact hBf | exact Uz⟩
        case rest=>
        obtain⟨rfl,HB3⟩:=hcut;have Ad:=zq (aT gD.out HB3.out);clear hw gD HB3 tu Hc f0 f1 f2 f3 f4 e0 e1 e2 el HQ;by_cases d1:AD < 0
        ·have R:aY (fG fs at' ps right=false):=Rk.out (by rw [EA.out,decide_eq_true d1];rfl);go_wp2;go_ret;exact⟨by rw [R.out] <;> rfl,Ad.out⟩
        ·have EA:aY (PB= !(right && decide (AD=0))):=by
          show _=_;rw [EA.out,decide_eq_false d1];rfl
         by_cases d2:AD=0
         ·subst d2;cases right with
          | true=>
           have R:aY (fG fs at' ps true=false):=Rk.out (by rw [EA.out];rfl);go_wp2;go_ret;exact⟨by rw [R.out] <;> rfl,Ad.out⟩
          | false=>
           have e:=zq (lj.out (by rw [EA.out];rfl));go_wp2;go_roundw;case rel=> exact⟨k + 1,by go_num,by omega,Ad.out,e.out⟩
           case measure=> simp only [aK];omega
         ·have e:=zq (lj.out (by rw [EA.out,decide_eq_false d2,QC];rfl));have d3:(AD==0)=false:=by simpa using d2
          cases right;all_goals
           go_wp2;go_roundw;case rel=> exact⟨k + 1,by go_num,by omega,Ad.out,e.out⟩
           case measure=> simp only [aK];omega
   ·obtain rfl:n=k:=by omega
    clear HS HO HF HA R1 R2 hlt;go_wp2;go_loopw [13] (fun i wr=> ∃ j:Nat,i=aF aG j∧j≤n∧aY (aJ w.heap.size w wr)∧aY (anyN (Cn fs at' ps) j=false)) (fun i _=> n - (aK i).toNat);case atStart=> exact⟨0,rfl,bR _,HB.out,rfl⟩
    case round=>
     clear HB;obtain⟨j,rfl,hj,HB,hy⟩:=hrel;by_cases hlt:j < n
     ·have QQ:(j + 1) % n < n:=Nat.mod_lt _ (by omega);have GG:=xU j n;have Fe:=zq (R3.out j hlt);have HR6:=zq (R6.out j);have HRn:aY (Cn fs at' ps j=false→anyN (Cn fs at' ps) (j + 1)=false):=fun h=> oZ hy.out h;have Dx:=R5.out j hz.out hlt;have AB:=R5.out _ hz.out QQ;generalize (j + 1) % n=q at *;obtain⟨pb,po,rfl,c0,c1,c2⟩:=(Rp.out.below HB.out).at (i:=j) (by rw [Hp.out];exact hlt) rfl;obtain⟨pb',po',e1,d0,d1,d2⟩:=(Rp.out.below HB.out).at (i:=q) (by rw [Hp.out];exact QQ) rfl;injection e1 with e1;injection e1 with e1 e2;subst e1 e2;have HJj:=zq (HJ.out _ _ Dx AB);clear Dx AB;generalize Cn fs at' ps j=BJ at *;generalize ps.getD j default=p at *;generalize ps.getD q default=p2 at *;generalize wZ fs at' p p2=JB at *;unfold Pt.v Pt.cells at HJj;obtain⟨s1,u1,v1⟩:=p;obtain⟨s2,u2,v2⟩:=p2;simp only [] at *;generalize bs u1=U1 at *;generalize bs v1=V1 at *;generalize bs u2=U2 at *;generalize bs v2=V2 at *;have EQ:IntKind.i64.wrap ((j:Int) + 1)=(j:Int) + 1:=aP _ (by omega);have Gf:¬ n=0:=by omega
      have hqi:(q:Int) < (n:Int):=by omega
      have wl:(0:Int)≤(q:Int):=by omega
      have S:aY (JB=false→fG fs at' ps right=false):=Fe.out;go_wp2;go_cut [89] (fun v W=> v=aM (!JB)∧aY (aJ w.heap.size w W));case first=>
       go_region_held3 (fun w' => w'.cell? ⟨pb,po + j * 3,none⟩=some (aF aG s1)∧w'.cell? ⟨pb,po + j * 3 + 1,none⟩=some (aA U1)∧w'.cell? ⟨pb,po + j * 3 + 2,none⟩=some (aA V1)∧w'.cell? ⟨pb,po + q * 3,none⟩=some (aF aG s2)∧w'.cell? ⟨pb,po + q * 3 + 1,none⟩=some (aA U2)∧w'.cell? ⟨pb,po + q * 3 + 2,none⟩=some (aA V2)) (go_keep)
        (first
         | (go_at_call 133;with_reducible refine(HJj.out _ HB.out.drew).mono ?_;rintro e w1 ⟨rfl,hb1⟩;have Uz:=aT HB.out.drew hb1;have m0:=bV hb1 (p:=⟨pb,po + j * 3,none⟩) (v:=aF aG s1) (by simp [*]);have m1:=bV hb1 (p:=⟨pb,po + j * 3 + 1,none⟩) (v:=aA U1) (by simp [*]);have m2:=bV hb1 (p:=⟨pb,po + j * 3 + 2,none⟩) (v:=aA V1) (by simp [*]);have m3:=bV hb1 (p:=⟨pb,po + q * 3,none⟩) (v:=aF aG s2) (by simp [*]);have m4:=bV hb1 (p:=⟨pb,po + q * 3 + 1,none⟩) (v:=aA U2) (by simp [*]);have m5:=bV hb1 (p:=⟨pb,po + q * 3 + 2,none⟩) (v:=aA V2) (by simp [*])))
       all_goals
        go_wp2;go_meet;case rel=> exact⟨rfl,Uz⟩
      case rest=>
      obtain⟨rfl,fK⟩:=hcut;clear EQ GG;cases JB with
      | false=>
       have R:=zq (S.out rfl);go_wp2;go_ret;exact⟨by rw [R.out] <;> rfl,fK.out⟩
      | true=>
       have e:=zq (HRn.out (by rw [HR6.out];rfl));go_wp2;go_roundw;case rel=> exact⟨j + 1,by go_num,by omega,fK.out,e.out⟩
       case measure=> simp only [aK];omega
     ·obtain rfl:n=j:=by omega
      have R:=zq (R4.out h4 hz.out hy.out);go_wp2;go_ret;exact⟨by rw [R.out] <;> rfl,HB.out⟩
end
end Go.Proofs.YtcimoodjlopdaaaGreatDoor
