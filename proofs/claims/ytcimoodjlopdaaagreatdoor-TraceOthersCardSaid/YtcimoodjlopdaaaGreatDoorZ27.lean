import Derived.BigRegion
import Derived.BigQuiet
import Derived.Deep.QuietTactic
import Derived.Test.YtcimoodjlopdaaaGreatDoorZ0
import Derived.Test.YtcimoodjlopdaaaGreatDoorZ22
import Derived.Test.YtcimoodjlopdaaaGreatDoorZ25
import Derived.Test.YtcimoodjlopdaaaGreatDoorZ26
namespace Go.Proofs.YtcimoodjlopdaaaGreatDoor
set_option maxRecDepth 100000
set_option maxHeartbeats 8000000
set_option linter.all false
open Go.Proofs.Tryz
open Go renaming World->aE,Calls->aQ,Value->bB,below_drewN->bH,Addr->dE,run_takeDeferred->gE,ownFrom_below->Bi,grownBy_putObj'->sc
open Go.Ending renaming returned->aO
open Go.IntKind renaming i64->aG
open Go.IntWalk renaming i64_in->aP
open Go.KeepsOthers renaming setCell->cE
open Go.Obj renaming cells->aL
open Go.OwnFrom renaming and->tE
open Go.Proofs renaming enters_of->qP
open Go.Proofs.Tryz renaming prog->aC,isAgg29->pN,results11->qS,isAgg23->uS
open Go.RowKit renaming Below->aJ,intOf->aK,Hid->aY
open Go.RowKit.Below renaming refl->aI
open Go.Value renaming string->aA,slice->aB,int->aF,bool->aM,tuple->bO,pointer->cB
open Go.World renaming size_alloc->aS,ownsRow->B3
open List renaming getD_eq_getElem?_getD->aN,getElem?_cons_zero->bD,set_cons_succ->bG,getElem?_toArray->bJ,length_map->cG,length_cons->cO,take_of_length_le->dH,getElem_of_mem->fV,not_mem_nil->MM,mem_cons->Um,getD_cons_succ->Yd
open MonadStateOf renaming set->UI
open Nat renaming le_refl->aD,zero_le->bR,le_trans->cC,lt_or_ge->fC,mod_lt->fW
open Trans renaming trans->cL
section
open Go Go.RowKit Go.Shelf Go.Lib
structure qq(a b:Option dE)(nf n ca cb:Nat)(fs:List Fr)(ls:List Lp)(x y:List UInt8)(w:aE):Prop where
 tracer2:∀W g,aJ w.heap.size w W→bZ W g #[aA (bs x),aA (bs y)] 24→aQ aC 23 #[aB a nf ca,aB b n cb,aB (some ⟨g,0,none⟩) 2 2] W (PK a nf ca fs [x,y] ls W)
 all:fH fs [x,y] ls=0→∀a2 c2 W,aJ w.heap.size w W→xO W a2 (iP fs x)→aQ aC 24 #[.agg #[aB a nf ca,aB a2 nf c2],aB b n cb,aM true] W (Rt (aM (mL fs (iP fs x) ls true)) W)
 cmp:∀W,aJ w.heap.size w W→aQ aC 38 #[aA (bs x),aA (bs y)] W (Rt (aF aG (gY x y).1) W)
theorem moveC(a b:Option dE)(nf n ca cb:Nat)(fs:List Fr)(ls:List Lp)(x y:List UInt8)(w:aE)(hE:eZ w)
 (hf:fs.length=nf)(hl:ls.length=n)(FK:nf≤1000)(hn:n≤1000000)(pK:∀f∈fs,f.sp.length≤30∧f.st.length≤30)(sW:Fk ls)(hx:x.length≤8000000)(hy:y.length≤8000000)
 (rf:wP w a fs)(rl:zP w b ls):qq a b nf n ca cb fs ls x y w where
 tracer2 W g hW q:=by
  have rz:xO W (some ⟨g,0,none⟩) [x,y]:=by
   intro i hi;have hi:i<2:=hi;match i,hi with
   |0,_=>exact⟨_,_,rfl,q.cell 0⟩
   |1,_=>exact⟨_,_,rfl,q.cell 1⟩
  exact uC a b (some ⟨g,0,none⟩) nf n 2 ca cb 2 fs ls [x,y] W (hE.below hW) hf hl rfl (by omega) hn (by decide) pK (fun z hz=>by simp only[Um,MM,or_false]at hz;rcases hz with rfl|rfl<;>assumption) (fun l h=>(sW l h).1) (rf.below hW) (rl.below hW) rz
 all h a2 c2 W hW ra:=by
  obtain⟨h1,h2,h3,-⟩:=XW h;exact VA a a2 b nf n ca c2 cb fs (iP fs x) ls true W (hE.below hW) hf (by rw[rR];exact hf) hl hn (fun f hm=>(Fr.Ok.dir ⟨h1 f hm,(pK f hm).1,(pK f hm).2⟩)) sW (rf.below hW) ra (rl.below hW)
 cmp W hW:=by
  have:=rX (bs x) (bs y) W (hE.below hW) (by rw[bU];exact hx) (by rw[bU];exact hy);rwa[aX,aX]at this
theorem Av.err{hs:Nat}{a:Option dE}{nf ca:Nat}{X Y:ByteArray}{W:aE}(h:Av hs a nf ca X Y W)(v:bB)(c:Int):
 ∃V,(W.setCell ⟨hs+1+1+1,0,none⟩ v).setCell ⟨hs+1+1+1+1,0,none⟩ (aF aG c)=V∧
  bZ V (hs+1+1+1) #[v] 23∧bZ V (hs+1+1+1+1) #[aF aG c] 29∧∀u,aJ hs u W→aJ hs u V:=
 ⟨_,rfl,(h.2.2.2.1.set 0 _).other _ (by show hs+1+1+1≠hs+1+1+1+1;omega),(h.2.2.2.2.other _ (by show hs+1+1+1+1≠hs+1+1+1;omega)).set 0 _,
  fun u hu=>(hu.setCell (by show hs≤hs+1+1+1;omega) _).setCell (by show hs≤hs+1+1+1+1;omega) _⟩
theorem TG(a b:Option dE)(nf n ca cb:Nat)(fs:List Fr)(ls:List Lp)(x y:List UInt8)(w:aE)(H:qq a b nf n ca cb fs ls x y w)(h0:fH fs [x,y] ls≠0):
 aQ aC 11 #[aB a nf ca,aB b n cb,aA (bs x),aA (bs y)] w (G7 w (kZ fs ls x y) (iO fs ls x y)):=by
 have hPE:=(uG fs ls x y).1 h0;have RX:aY (∀W,aJ w.heap.size w W→G7 w (kZ fs ls x y) (iO fs ls x y) (aO (bO #[aB none 0 0,aF aG (fH fs [x,y] ls)])) W):=fun W hB=>
  ⟨⟨none,0,[],by rw[zC (by rw[hPE];exact h0),hPE];rfl,by rw[zC (by rw[hPE];exact h0)];rfl,fun i hi=>absurd hi (by simp)⟩,hB⟩
 have h':(fH fs [x,y] ls !=0)=true:=by rw[bne_iff_ne];exact h0
 obtain⟨W0,iU,Cv,fP⟩:=Av.new a nf ca (bs x) (bs y) w;have HC:=zq (H.tracer2 (W0.alloc (aL #[aA (bs x),aA (bs y)] 24)) W0.heap.size (fP.alloc fP.size _) (bZ.new W0 _ _));have Ad:=zq (Cv.alloc (aL #[aA (bs x),aA (bs y)] 24));have mE:=zq (fP.alloc fP.size (aL #[aA (bs x),aA (bs y)] 24));have Bx:=zq Cv;clear H hPE h0 Cv fP;unfold PK at HC;generalize kZ fs ls x y=PV at *;generalize iO fs ls x y=PE at *;generalize fH fs [x,y] ls=c at *;generalize bs x=X at *;generalize bs y=Y at *;go_enter func11,ntmps11;go_upto_region 1 with(fail)
 try rw[iU]
 have b4:=Bx.out.1.cell 0;have b6:=Bx.out.2.1.cell 0;have b7:=Bx.out.2.2.1.cell 0;have l4:=Bx.out.1.lt;have l6:=Bx.out.2.1.lt;have l7:=Bx.out.2.2.1.lt;simp only[bJ,bD]at b4 b6 b7;clear iU;go_wp2_with fail
 refine HC.out.mono ?_;rintro e W1⟨⟨a1,n1,c1,a2,n2,c2,rfl,-⟩,hb1⟩;have fK:=zq (aT mE.out hb1);have Fv:=zq (Ad.out.below hb1);have hlt:=Fv.out.2.2.2.2.lt;clear hb1 b4 b6 b7 l4 l6 l7;have r8:=Fv.out.2.2.2.1.cell 0;have r9:=Fv.out.2.2.2.2.cell 0;have z8:=Fv.out.2.2.2.1.fz 0;have z9:=Fv.out.2.2.2.2.fz 0;have l8:=Fv.out.2.2.2.1.lt;have l9:=Fv.out.2.2.2.2.lt;simp only[bJ,bD]at r8 r9;go_wp2;obtain⟨V,hV,b1,b2,Z7⟩:=Fv.out.err (aB none 0 0) c;rw[hV];exact bodyPost_ret (fF qS _ _ (w.heap.size+1+1+1) (w.heap.size+1+1+1+1) (aB none 0 0) (aF aG c) rfl rfl ((b1.alloc _).cell 0) ((b2.alloc _).cell 0) uS pN) rfl (RX.out _ ((Z7 _ fK.out).alloc (cC fK.out.size (by rw[←hV];simp)) _))
theorem nB.set{B:Nat}{W:aE}{v:bB}{iJ:List Lp}(h:nB B W v iJ){p:dE}(hp:p.block<B)(u:bB):nB B (W.setCell p u) v iJ:=
 ⟨gQ h.1 hp u,fun l hl=>gQ (h.2 l hl) hp u⟩
theorem nB.putObj{B:Nat}{W:aE}{v:bB}{iJ:List Lp}(h:nB B W v iJ){l:Nat}{o:Obj}(o':Obj)(hl:W.heap[l]? =some o)(ho:o.isCells=false):nB B (W.putObj l o') v iJ:=
 ⟨tU h.1 (sc W l o') (fun r e=>by cases e;exact⟨o,hl,ho⟩),fun x hx=>tU (h.2 x hx) (sc W l o') (fun r e=>by cases e;exact⟨o,hl,ho⟩)⟩
theorem nB.mono{B B':Nat}{W:aE}{v:bB}{iJ:List Lp}(h:nB B W v iJ)(hb:B'≤B):nB B' W v iJ:=
 ⟨gN h.1 hb,fun l hl=>gN (h.2 l hl) hb⟩
theorem Z8(w:aE):aQ aC 97 #[aB none 0 0,aF aG 0] w (Rt (aB none 0 0) w):=by
 go_enter func97,ntmps97;go_wp2;go_ret;exact⟨rfl,aI _ _⟩
theorem TH(w:aE):aQ aC 41 #[aB none 0 0] w (Rt (aB none 0 0) w):=by
 have HG:=zq (fun W=>Z8 W);go_enter func41,ntmps41;go_wp2;go_loop [3,11] (fun s i=>i=aF aG 0∧s=aF aG 0) (fun _ i=>0-(aK i).toNat);case atStart=>exact⟨rfl,rfl⟩
 case round=>
  obtain⟨rfl,rfl⟩:=hrel;go_wp2_with fail
  refine(HG.out _).mono ?_;rintro e W1⟨rfl,hb1⟩;have fK:=zq hb1;clear hb1;go_wp2;go_loopw[6,27] (fun o i wr=>i=aF aG 0∧o=aB none 0 0∧aY (aJ w.heap.size w wr)) (fun _ i _=>0-(aK i).toNat);case atStart=>exact⟨rfl,rfl,fK.out⟩
  case round=>
   obtain⟨rfl,rfl,HB⟩:=hrel;go_wp2;go_ret;exact⟨rfl,HB.out⟩
structure MoveH(a:Option dE)(nf n ca:Nat)(fs:List Fr)(MA:List (List Pt))(w:aE):Prop where
 cat:∀W va vc IX,aJ w.heap.size w W→IX.map Lp.ps=MA→(n=0→va=none∧vc=0)→zP W va IX→aQ aC 41 #[aB va n vc] W fun e w'=>(∃pa pc,e=aO (aB pa MA.flatten.length pc)∧Fg w' pa MA.flatten)∧aJ W.heap.size W w'
 back:∀W Bf pa pc,aJ w.heap.size w W→bZ W Bf #[aB a nf ca] 22→Fg W pa MA.flatten→aQ aC 42 #[aB pa MA.flatten.length pc,.func (.func 43) #[] #[cB (some ⟨Bf,0,none⟩)]] W (Rt (aM (MA.flatten.any (oR fs))) W)
 lim:∀W pa pc,aJ w.heap.size w W→Fg W pa MA.flatten→aQ aC 42 #[aB pa MA.flatten.length pc,.func (.func 46) #[] #[]] W (Rt (aM (MA.flatten.any uF)) W)
theorem moveH(a:Option dE)(nf n ca:Nat)(fs:List Fr)(MA:List (List Pt))(w:aE)(hE:eZ w)(hf:fs.length=nf)(hl:MA.length=n)(hn:n≤24)(FK:nf≤1000000)
 (hdir:∀f∈fs,f.dir=1∨f.dir= -1)(kN:∀i,i<n→1≤(MA.getD i []).length∧(MA.getD i []).length≤96)
 (hpt:∀i,i<n→∀j,j<(MA.getD i []).length→(∃s:Nat,((MA.getD i []).getD j default).side=s∧s<nf)∧((MA.getD i []).getD j default).fr.length≤8000000∧((MA.getD i []).getD j default).en.length≤8000000)
 (rf:wP w a fs):MoveH a nf n ca fs MA w:=by
 have WK:∀p∈MA.flatten,(∃s:Nat,p.side=s∧s<nf)∧p.fr.length≤8000000∧p.en.length≤8000000:=by
  intro p hp;obtain⟨l,sz,hp⟩:=List.mem_flatten.1 hp;obtain⟨i,hi,rfl⟩:=fV sz;obtain⟨j,hj,rfl⟩:=fV hp;have e1:MA.getD i []=MA[i]:=by simp[aN,hi]
  have e2:MA[i].getD j default=MA[i][j]:=by simp[aN,hj]
  have:=hpt i (by omega) j (by rw[e1];exact hj);rwa[e1,e2]at this
 have hbig:MA.flatten.length≤1000000:=by
  have:∀(L:List (List Pt)),(∀l∈L,l.length≤96)→L.flatten.length≤L.length*96:=by
   intro L;induction L with
   |nil=>intro _;exact aD _
   |cons l L ih=>
    intro h;have h1:=h l (by simp);have h2:=ih (fun x hx=>h x (by simp[hx]));rw[List.flatten_cons,List.length_append,cO];omega
  have:=this MA (fun l sz=>by
   obtain⟨i,hi,rfl⟩:=fV sz;have e1:MA.getD i []=MA[i]:=by simp[aN,hi]
   rw[←e1];exact(kN i (by omega)).2)
  omega
 refine⟨fun W va vc IX hW hm h0 rl=>?_,fun W Bf pa pc hW hb rp=>?_,fun W pa pc hW rp=>?_⟩
 ·have hll:IX.length=n:=by rw[←hl,←hm,cG]
  have Fo:∀i,i<n→(IX.getD i default).ps=MA.getD i []:=fun i hi=>by
   rw[←hm];have:i<IX.length:=by omega
   simp[aN,this]
  have hall:oS IX=MA.flatten:=by rw[←hm];exact List.flatMap_def ..
  have EQ:lB IX n=MA.flatten.length:=by
   rw[←BW n (by omega),dH (by omega),hall]
  by_cases hz:n=0
  ·obtain⟨rfl,rfl⟩:=h0 hz;subst hz;have e0:MA=[]:=List.length_eq_zero_iff.1 hl;subst e0;refine(TH W).mono ?_;rintro e w'⟨rfl,hb⟩;exact⟨⟨none,0,rfl,fun i hi=>absurd hi (by simp)⟩,hb⟩
  ·have hpos:0<lB IX n:=by
    obtain⟨m,rfl⟩:∃m,n=m+1:=⟨n-1,by omega⟩;have:=(kN m (by omega)).1;rw[←Fo m (by omega)]at this;show 0<lB IX m+_;omega
   refine(Qe va n vc IX W hll (by omega) (fun i hi=>by rw[Fo i hi];have:=(kN i hi).2;omega) (fun i hi=>by rw[Fo i hi];exact(kN i hi).1) hpos rl).mono ?_;rintro e w'⟨⟨g,cap,rfl,hr⟩,hb⟩;rw[EQ];rw[hall]at hr;exact⟨⟨_,_,rfl,hr⟩,hb⟩
 ·refine(SK 43 #[cB (some ⟨Bf,0,none⟩)] (qP func43 (by kernel_rfl) rfl) pa _ pc MA.flatten (fun k=>oR fs (MA.flatten.getD k default)) W rfl (by omega) rp (fun i hi W2 h2=>?_)).mono ?_
  ·obtain⟨⟨s,hs,BQ⟩,h3,h4⟩:=WK _ (cP hi default);have:=qk Bf a nf ca fs (MA.flatten.getD i default) s W2 (hE.below (aT hW h2)) hf hs BQ FK hdir h3 h4 (rf.below (aT hW h2)) (hb.below h2 hb.lt);exact this
  ·rintro e w'⟨rfl,BK⟩;exact⟨by rw[Mv],BK⟩
 ·refine(SK 46 #[] (qP func46 (by kernel_rfl) rfl) pa _ pc MA.flatten (fun k=>uF (MA.flatten.getD k default)) W rfl (by omega) rp (fun i hi W2 h2=>?_)).mono ?_
  ·obtain⟨-,h3,h4⟩:=WK _ (cP hi default);rw[Array.append_empty];exact qn (MA.flatten.getD i default) W2 (hE.below (aT hW h2)) h3 h4
  ·rintro e w'⟨rfl,BK⟩;exact⟨by rw[Mv],BK⟩
section
attribute[local go_sem] Oper.semAt_some
theorem Z9{y:List UInt8}(h:dR y=0):GR [y] [y].length=0:=by
 simp[GR,qK,h]
theorem aa{fs:List Fr}{x y:List UInt8}{ls:List Lp}(h:fH fs [x,y] ls=0):fH fs [y] ls=0:=by
 have hy:=(DZ h).2.1 y (by simp);unfold fH at h⊢;by_cases h1:Ac fs=true
 ·rw[ip h1]at h;cases h
 rw[iN h1]at h⊢;rw[iN (fun k=>k (Z9 hy))];by_cases h2:GR [x,y] [x,y].length=0
 ·rwa[iN (fun k=>k h2)]at h
 ·rw[ip h2]at h;exact absurd h h2
theorem chkT_f{fs:List Fr}{zs:List (List UInt8)}{ls:List Lp}(h:fH fs zs ls=0):fs.length≤24:=by
 rcases fC 24 fs.length with c|c
 ·rw[PI c]at h;cases h
 ·exact c
structure MoveE(a:Option dE)(nf ca:Nat)(fs:List Fr)(x y:List UInt8)(w:aE):Prop where
 seq:∀W Bf,aJ w.heap.size w W→bZ W Bf #[aB a nf ca] 22→SeqH Fence.wide 8 aC 95 #[cB (some ⟨Bf,0,none⟩)] (fun z:Rat=> #[aA (bs (aV z))]) (fun _ z=>HQ 198 z∧mw fs z) (fun k=>∀z,mw fs z→z∈k) (jI w.heap.size) W
 lo:∀z,HQ 198 z→∀W,aJ w.heap.size w W→aQ aC 38 #[aA (bs x),aA (bs (aV z))] W fun e w'=>(∃c:Int,e=aO (aF aG c)∧(c<0↔cF x<z))∧aJ W.heap.size W w'
 hi:∀z,HQ 198 z→∀W,aJ w.heap.size w W→aQ aC 38 #[aA (bs (aV z)),aA (bs y)] W fun e w'=>(∃c:Int,e=aO (aF aG c)∧(c<0↔z<cF y))∧aJ W.heap.size W w'
theorem OA(a b:Rat):mJ a b<0↔a<b:=by
 have:=MC a b;simpa using this
theorem moveE(a:Option dE)(nf ca:Nat)(fs:List Fr)(x y:List UInt8)(w:aE)(hE:eZ w)(hf:fs.length=nf)(FK:nf≤24)(MB:nf≤ca)(ZM:∀f∈fs,f.Ok)(hx:dR x=0)(hy:dR y=0)(rf:wP w a fs):MoveE a nf ca fs x y w:={
 seq W Bf hW hb:=ev_seq og Bf w.heap.size a nf ca fs hf FK ZM W hW.size hb.lt (fun V hV=>hE.below (hW.trans hV)) (fun V hV=>rf.below (hW.trans hV)) MB hb
 lo z hz W hW:=by
  obtain⟨h0,h1,e1⟩:=Aq hx;have:=rX (bs x) (bs (aV z)) W (hE.below hW) (by rw[bU];exact DW hx) (by rw[bU];have Ut:HQ 300 z:=hz.mono (by decide);have:=Di Ut.1 Ut.2;omega);rw[aX,aX]at this;refine this.mono ?_;rintro e w'⟨rfl,hb⟩;have a:=CQ h1 hz (by decide);rw[e1]at a;exact⟨⟨_,rfl,by rw[a];exact OA _ _⟩,hb⟩
 hi z hz W hW:=by
  obtain⟨h0,h1,e1⟩:=Aq hy;have:=rX (bs (aV z)) (bs y) W (hE.below hW) (by rw[bU];have Ut:HQ 300 z:=hz.mono (by decide);have:=Di Ut.1 Ut.2;omega) (by rw[bU];exact DW hy);rw[aX,aX]at this;refine this.mono ?_;rintro e w'⟨rfl,hb⟩;have a:=CQ hz h1 (by decide);rw[e1]at a;exact⟨⟨_,rfl,by rw[a];exact OA _ _⟩,hb⟩}
theorem OB{F:Fence}{n:Nat}{P:Program}{fn:Func}{R:Ending→aE→Prop}{a:Act}{w:aE}{v:bB}(h:(results fn a.tmps).run P w=.ok v w)(hd:a.defers=[])(hR:R (aO v) w):bodyPostM F n P fn R .ret a w:=by
 show LeavesInM _ _ _ _ _ _ _ _ _;rw[hd];exact⟨v,h,hR⟩
theorem TI{k:List Rat}{z lo hi:Rat}(h:∀t∈k,¬(lo<t∧t<hi))(hz:¬(lo<z∧z<hi)):∀t∈k++[z],¬(lo<t∧t<hi):=fun t ht=>by
 rcases List.mem_append.1 ht with h'|h'
 ·exact h t h'
 ·rw[List.mem_singleton.1 h'];exact hz
theorem Av.other{hs:Nat}{a:Option dE}{nf ca:Nat}{X Y:ByteArray}{W:aE}(h:Av hs a nf ca X Y W){p:dE}(v:bB)(hp:hs+1+1+1+1<p.block):Av hs a nf ca X Y (W.setCell p v):=
 ⟨h.1.other v (by omega),h.2.1.other v (by omega),h.2.2.1.other v (by omega),h.2.2.2.1.other v (by omega),h.2.2.2.2.other v (by omega)⟩
theorem OC{W:aE}{a:Option dE}{zs:List (List UInt8)}{T:Nat}{a1 a2:Option dE}{n1 c1 n2 c2:Nat}{T':TypeId}(h:xO W a zs)(q:bZ W T #[aB a1 n1 c1,aB a2 n2 c2] T')(j:Nat)(v:bB):xO (W.setCell ⟨T,j,none⟩ v) a zs:=by
 intro i hi;obtain⟨b,off,e,hc⟩:=h i hi;refine⟨b,off,e,?_⟩;by_cases hb:b=T
 ·subst hb;rw[q.cell (off+i)]at hc;rcases fC (off+i) 2 with hl|hl
  ·match hk:off+i,hl with
   |0,_=>rw[hk]at hc;cases hc
   |1,_=>rw[hk]at hc;cases hc
  ·rw[Array.getElem?_eq_none (by simpa using hl)]at hc;cases hc
 ·rw[World.cell?_of_block (heap_setCell_other W ⟨T,j,none⟩ b v hb)];exact hc
theorem Av.own{hs:Nat}{a:Option dE}{nf ca:Nat}{X Y:ByteArray}{W W':aE}{uJ:Option Nat}(h:Av hs a nf ca X Y W)(hg:W.grownBy W' uJ)(hr:∀r,uJ=some r→∃o:Obj,W.heap[r]? =some o∧o.isCells=false):Av hs a nf ca X Y W':=
 ⟨h.1.own hg hr,h.2.1.own hg hr,h.2.2.1.own hg hr,h.2.2.2.1.own hg hr,h.2.2.2.2.own hg hr⟩
theorem MD:∀(ps:List Pt)(i:Nat)(t:List UInt8),i<ps.length→(dL ps).set (i*3+2) (aA (bs t))=dL (ps.set i {ps.getD i default with en:=t})
 |[],i,t,h=>by simp at h
 |q::qs,0,t,_=>rfl
 |q::qs,i+1,t,h=>by
  have ih:=MD qs i t (by simpa using h)
  have e:dL (q::qs)=aF aG q.side::aA (bs q.fr)::aA (bs q.en)::dL qs:=rfl
  rw[show(i+1)*3+2=(i*3+2)+1+1+1 by omega,e]
  simp only[bG,Yd]
  rw[ih];rfl
theorem MF:∀(ps:List Pt)(i:Nat)(t:List UInt8),i<ps.length→(dL ps).set (i*3+1) (aA (bs t))=dL (ps.set i {ps.getD i default with fr:=t})
 |[],i,t,h=>by simp at h
 |q::qs,0,t,_=>rfl
 |q::qs,i+1,t,h=>by
  have ih:=MF qs i t (by simpa using h)
  have e:dL (q::qs)=aF aG q.side::aA (bs q.fr)::aA (bs q.en)::dL qs:=rfl
  rw[show(i+1)*3+1=(i*3+1)+1+1+1 by omega,e]
  simp only[bG,Yd]
  rw[ih];rfl
theorem OD{fs:List Fr}{at':List (List UInt8)}{ps:List Pt}(h2:2≤ps.length)(i:Nat)(hi:i≤ps.length)(k:Nat)(hk:k<ps.length):((Ft fs at' ps i).getD k default).side=(ps.getD k default).side:=by rw[P4 h2 i hi k hk]
theorem TJ{fs:List Fr}{at':List (List UInt8)}{ps:List Pt}{i q:Nat}(h2:2≤ps.length)(hi:i<ps.length)(hq:(i+1)%ps.length=q)(hu:xA fs (ps.getD i default)≠xA fs (ps.getD q default)):
 ((dL ps).set (i*3+2) (aA (bs (at'.getD (ps.getD q default).side.toNat [])))).set (q*3+1) (aA (bs (at'.getD (ps.getD i default).side.toNat [])))=dL (EC fs at' ps i):=by
 have hql:q<ps.length:=by rw[←hq];exact fW _ (by omega)
 rw[MD _ _ _ hi,MF _ _ _ (by simpa using hql)];unfold EC;rw[hq,iN hu]
theorem Wb{fs:List Fr}{at':List (List UInt8)}{ps:List Pt}{i q:Nat}(hq:(i+1)%ps.length=q)(hu:xA fs (ps.getD i default)=xA fs (ps.getD q default)):EC fs at' ps i=ps:=by
 unfold EC;rw[hq,ip hu]
theorem keepDF{W:aE}{p:dE}{b:Bool}(h:W.frozen? p=b):W.drew.frozen? p=b:=h
theorem keepSF{W:aE}{p q:dE}{b:Bool}{v:bB}(h:W.frozen? p=b):(W.setCell q v).frozen? p=b:=by rw[World.frozen?_setCell];exact h
theorem keepDL{W:aE}{g:Nat}(h:g<W.heap.size):g<W.drew.heap.size:=h
theorem keepSL{W:aE}{g:Nat}{q:dE}{v:bB}(h:g<W.heap.size):g<(W.setCell q v).heap.size:=by rw[World.size_setCell];exact h
theorem keepS{W:aE}{p q:dE}{v u:bB}(lE:p≠q)(h:W.cell? p=some v):(W.setCell q u).cell? p=some v:=(World.cell?_setCell_other _ _ _ _ (Ne.symm lE)).trans h
structure MoveF(a b:Option dE)(nf n ca cb:Nat)(fs:List Fr)(ls:List Lp)(x y:List UInt8)(w:aE):Prop where
 tracer1:∀W g,aJ w.heap.size w W→bZ W g #[aA (bs y)] 24→aQ aC 23 #[aB a nf ca,aB b n cb,aB (some ⟨g,0,none⟩) 1 1] W fun e w'=>(∃a3 c3,e=aO (bO #[.agg #[aB a nf ca,aB a3 nf c3],aF aG 0])∧xO w' a3 (iP fs y))∧aJ W.heap.size W w'
 rf:∀W,aJ w.heap.size w W→wP W a fs
 rl:∀W,aJ w.heap.size w W→zP W b ls
 flen:fs.length=nf
 len:ls.length=n
 alen:(iP fs y).length=nf
 nn:n≤24
 size:mL fs (iP fs x) ls true=true→∀i,i<n→4≤(ls.getD i default).ps.length∧(ls.getD i default).ps.length≤96
 side:mL fs (iP fs x) ls true=true→∀i,i<n→∀j,j<(ls.getD i default).ps.length→∃s:Nat,((ls.getD i default).ps.getD j default).side=s∧s<nf
theorem Wc (a b : Option dE) (nf n ca cb : Nat) (fs : List Fr) (ls : List Lp) (x y : List UInt8) (w : aE) (H : qq a b nf n ca cb fs ls x y w) (He : MoveE a nf ca fs x y w) (Hf : MoveF a b nf n ca cb fs ls x y w) (Hh : mL fs (iP fs x) ls true = true → MoveH a nf n ca fs (eV fs (iP fs y) ls) w) (h0 : fH fs [x, y] ls = 0)
 (hx : dR x = 0) (hy : dR y = 0) :
 aQ aC 11 #[aB a nf ca, aB b n cb, aA (bs x), aA (bs y)] w (G7 w (kZ fs ls x y) (iO fs ls x y)) := by
 have RX : aY (∀ c, iO fs ls x y = c → c ≠ 0 → ∀ W, aJ w.heap.size w W → G7 w (kZ fs ls x y) (iO fs ls x y) (aO (bO #[aB none 0 0, aF aG c])) W) := fun c hc hc0 W hB =>
  ⟨⟨none, 0, [], by rw [zC (by rw [hc]; exact hc0), hc]; rfl, by rw [zC (by rw [hc]; exact hc0)]; rfl, fun i hi => absurd hi (by simp)⟩, hB⟩
 have wa := uG fs ls x y
 have uc : aY (mL fs (iP fs x) ls true = false → ∀ W, aJ w.heap.size w W → G7 w (kZ fs ls x y) (iO fs ls x y) (aO (bO #[aB none 0 0, aF aG 1])) W) := fun h => RX.out 1 (wa.2.1 h0 h) (by decide)
 have jq : aY (mL fs (iP fs x) ls true = true → (0 < (gY x y).1) → ∀ W, aJ w.heap.size w W → G7 w (kZ fs ls x y) (iO fs ls x y) (aO (bO #[aB none 0 0, aF aG 2])) W) := fun h k => RX.out 2 (wa.2.2.1 h0 h (.inl ((TF hx hy).1 k))) (by decide)
 have HX3 : aY (mL fs (iP fs x) ls true = true → Tl fs x y → ∀ W, aJ w.heap.size w W → G7 w (kZ fs ls x y) (iO fs ls x y) (aO (bO #[aB none 0 0, aF aG 2])) W) := fun h k => RX.out 2 (wa.2.2.1 h0 h (.inr k)) (by decide)
 have HX5 : aY (mL fs (iP fs x) ls true = true → ¬ (0 < (gY x y).1) → ¬ Tl fs x y → iO fs ls x y = if ((eV fs (iP fs y) ls).flatten.any (oR fs)) = true then 2 else if ((eV fs (iP fs y) ls).flatten.any uF) = true then 4 else 0) := fun h k => wa.2.2.2 h0 h (fun q => k ((TF hx hy).2 q))
 have My : aY (iO fs ls x y = 0 → kZ fs ls x y = eV fs (iP fs y) ls) := D4
 have HRX := RX
 have HMc := zq Hh
 have h1n : (0 < [x, y].length) := by simp
 obtain ⟨W0, iU, Cv, fP⟩ := Av.new a nf ca (bs x) (bs y) w
 have HC := zq (H.tracer2 (W0.alloc (aL #[aA (bs x), aA (bs y)] 24)) W0.heap.size (fP.alloc fP.size _) (bZ.new W0 _ _))
 have uP := zq (H.all h0)
 have ae := zq H.cmp
 have HSeq := zq He.seq
 have cg := zq He.lo
 have HHi := zq He.hi
 have Ad := zq (Cv.alloc (aL #[aA (bs x), aA (bs y)] 24))
 have mE := zq (fP.alloc fP.size (aL #[aA (bs x), aA (bs y)] 24))
 have Bx := zq Cv
 have SU := zq Hf.tracer1
 have HRf := zq Hf.rf
 have HRl := zq Hf.rl
 have HFl := zq Hf.flen
 have HLl := zq Hf.len
 have qi := zq Hf.alen
 have HNn := zq Hf.nn
 have HSz := zq Hf.size
 have tp := zq Hf.side
 clear H He Hf Hh RX wa Cv fP
 unfold PK at HC
 have e0 : [x, y].getD 0 [] = x := rfl
 rw [e0, h0] at HC
 clear e0
 generalize kZ fs ls x y = PV at *
 generalize iO fs ls x y = PE at *
 generalize mL fs (iP fs x) ls true = al at *
 have io : aY ((0 : Int) < (gY x y).1 ↔ (0 : Int) < (gY x y).1) := Iff.rfl
 generalize (gY x y).1 = cq at *
 have Hat : aY (iP fs x = iP fs x) := rfl
 generalize iP fs x = ax at *
 obtain ⟨IY, hty⟩ : ∃ t, iP fs y = t := ⟨_, rfl⟩
 rw [hty] at SU qi HX5 My HMc
 have Hty := zq hty
 clear hty
 have H1n := zq h1n
 generalize [x, y].length = zl at *
 clear io Hat h1n hx hy h0
 generalize hX : bs x = X at *
 generalize hY : bs y = Y at *
 refine jT func11 rfl ?_
 simp only [ntmps11, List.size_toArray, cO, List.length_nil, Nat.reduceAdd, Nat.reduceSub, Array.replicate_succ, Array.replicate_zero, List.push_toArray, List.append_toArray, List.nil_append, List.cons_append]
 go_upto_region 1 with (fail)
 try rw [iU]
 have b4 := Bx.out.1.cell 0
 have b6 := Bx.out.2.1.cell 0
 have b7 := Bx.out.2.2.1.cell 0
 have l4 := Bx.out.1.lt
 have l6 := Bx.out.2.1.lt
 have l7 := Bx.out.2.2.1.lt
 simp only [bJ, bD] at b4 b6 b7
 clear iU
 go_wp2_with fail
 refine HC.out.mono ?_
 rintro e W1 ⟨⟨a1, n1, c1, a2, n2, c2, rfl, hk⟩, hb1⟩
 obtain ⟨e1, e2, e3, hq⟩ := hk trivial
 obtain ⟨e4, hr⟩ := hq (by first | exact trivial | exact H1n.out)
 have e1 := e1.symm; have e2 := e2.symm; have e3 := e3.symm; have e4 := e4.symm
 subst e1; subst e2; subst e3; subst e4
 have fK := zq (aT mE.out hb1)
 have Fv := zq (Ad.out.below hb1)
 have Hra := zq hr
 clear hb1 b4 b6 b7 l4 l6 l7 hr hq hk HC Ad mE Bx H1n
 go_upto_region 2 with (fail)
 obtain ⟨W2, RU⟩ : ∃ V, W1.alloc (aL #[aB a nf ca, aB a2 nf c2] 58) = V := ⟨_, rfl⟩
 have HT : aY (bZ W2 W1.heap.size #[aB a nf ca, aB a2 nf c2] 58) := by rw [← RU]; exact bZ.new _ _ _
 have af : aY (Av w.heap.size a nf ca X Y W2) := by rw [← RU]; exact Fv.out.alloc _
 have gD : aY (aJ w.heap.size w W2) := by rw [← RU]; exact fK.out.alloc fK.out.size _
 have HT1 : aY (w.heap.size + 1 + 1 + 1 + 1 < W1.heap.size) := Fv.out.2.2.2.2.lt
 have TK : aY (xO W2 a2 ax) := by rw [← RU]; exact Hra.out.below ((aI _ _).alloc (aD _) _)
 rw [RU]
 have HA := zq (uP.out a2 c2 W2 gD.out TK.out)
 clear RU fK Fv Hra uP TK
 generalize W1.heap.size = T at *
 obtain ⟨k0, k1, z0, z1, lT⟩ := HT.out.two
 go_wp2_with fail
 refine HA.out.mono ?_
 rintro e W3 ⟨rfl, hb3⟩
 have HB3 := zq (aT gD.out hb3)
 have Fw := zq (af.out.below hb3)
 have HT3 := zq (HT.out.below hb3 HT.out.lt)
 clear hb3 k0 k1 z0 z1 lT gD af HT HA
 cases al with
 | false =>
  have HX := zq (uc.out rfl)
  clear uc jq HX3 ae HT3 HT1
  have r8 := Fw.out.2.2.2.1.cell 0
  have r9 := Fw.out.2.2.2.2.cell 0
  have z8 := Fw.out.2.2.2.1.fz 0
  have z9 := Fw.out.2.2.2.2.fz 0
  have l8 := Fw.out.2.2.2.1.lt
  have l9 := Fw.out.2.2.2.2.lt
  simp only [bJ, bD] at r8 r9
  go_wp2
  obtain ⟨V, hV, b1, b2, Z7⟩ := Fw.out.err (aB none 0 0) 1
  rw [hV]
  exact OB (fF qS _ _ (w.heap.size + 1 + 1 + 1) (w.heap.size + 1 + 1 + 1 + 1) (aB none 0 0) (aF aG 1) rfl rfl (b1.cell 0) (b2.cell 0) uS pN) rfl (HX.out _ (Z7 _ HB3.out))
 | true =>
  have HY2 := zq (jq.out rfl)
  have HY3 := zq (HX3.out rfl)
  have HY5 := zq (HX5.out rfl)
  have HMh := HMc.out rfl
  have HSz2 := zq (HSz.out rfl)
  have HSd2 := zq (tp.out rfl)
  clear uc jq HX3 HX5 HMc HSz tp
  have b6 := Fw.out.2.1.cell 0
  have b7 := Fw.out.2.2.1.cell 0
  simp only [bJ, bD] at b6 b7
  go_wp2_with fail
  refine (ae.out _ HB3.out).mono ?_
  rintro e W4 ⟨rfl, hb4⟩
  have vG := zq (aT HB3.out hb4)
  have A7 := zq (Fw.out.below hb4)
  have HT4 := zq (HT3.out.below hb4 HT3.out.lt)
  clear hb4 b6 b7 HB3 Fw HT3
  by_cases hc : 0 < cq
  ·have HX := zq (HY2.out hc)
   clear HY2 HY3 ae HT4 HT1
   have r8 := A7.out.2.2.2.1.cell 0
   have r9 := A7.out.2.2.2.2.cell 0
   have z8 := A7.out.2.2.2.1.fz 0
   have z9 := A7.out.2.2.2.2.fz 0
   have l8 := A7.out.2.2.2.1.lt
   have l9 := A7.out.2.2.2.2.lt
   simp only [bJ, bD] at r8 r9
   go_wp2
   obtain ⟨V, hV, b1, b2, Z7⟩ := A7.out.err (aB none 0 0) 2
   rw [hV]
   exact OB (fF qS _ _ (w.heap.size + 1 + 1 + 1) (w.heap.size + 1 + 1 + 1 + 1) (aB none 0 0) (aF aG 2) rfl rfl (b1.cell 0) (b2.cell 0) uS pN) rfl (HX.out _ (Z7 _ vG.out))
  ·have HZ5 := zq (HY5.out (by omega))
   clear HY5
   have b4 := A7.out.1.cell 0
   simp only [bJ, bD] at b4
   go_wp2_with fail
   refine (Z6 a nf ca W4).mono ?_
   rintro e W5 ⟨rfl, YY⟩
   have un : aY (bZ W5 W4.heap.size #[aB a nf ca] 22) := by rw [YY]; exact bZ.new _ _ _
   have hb5 : aJ W4.heap.size W4 W5 := by rw [YY]; exact (aI _ _).alloc (aD _) _
   have wV := zq (aT vG.out hb5)
   have IZ := zq (A7.out.below hb5)
   have HT5 := zq (HT4.out.below hb5 HT4.out.lt)
   clear YY hb5 vG A7 HT4 b4
   generalize W4.heap.size = Be at *
   clear HY2
   go_wp2_with fail
   have HNo0 : aY (∀ z ∈ ([] : List Rat), ¬ (cF x < z ∧ z < cF y)) := fun z h => absurd h (by simp)
   refine VX (gf := 95) (lb := #[cB (some ⟨Be, 0, none⟩)]) rfl (qP func95 (by kernel_rfl) rfl) (HSeq.out W5 Be wV.out un.out) jI.trans (jI.putObj wV.out.size) (fun _ => rfl)
    (fun k W => ((Av w.heap.size a nf ca X Y W ∧ bZ W T #[aB a nf ca, aB a2 nf c2] 58) ∧ aY (∀ z ∈ k, ¬ (cF x < z ∧ z < cF y))) ∧ aJ w.heap.size w W)
    (fun c k W => ((bZ W (w.heap.size + 1 + 1 + 1) #[aB none 0 0] 23 ∧ bZ W (w.heap.size + 1 + 1 + 1 + 1) #[aF aG 2] 29) ∧ c = .ret ∧ Tl fs x y) ∧ aJ w.heap.size w W)
    (tE (Own.from (fun s A B uJ hs hg hr => ⟨⟨hs.1.1.own hg hr, hs.1.2.own hg hr⟩, hs.2⟩) _) (Bi (aD _) wV.out.size))
    (fun c => tE (Own.from (fun s A B uJ hs hg hr => ⟨⟨hs.1.1.own hg hr, hs.1.2.own hg hr⟩, hs.2⟩) _) (Bi (aD _) wV.out.size))
    ⟨⟨⟨IZ.out, HT5.out⟩, HNo0⟩, wV.out⟩
    ?rF ?assign ?body ?done ?stop
   case assign =>
    intro l z W K hK
    gi_wp2
    exact hK
   case body =>
    rintro l k z W ⟨hz, hzv⟩ ⟨⟨⟨Cv, hT⟩, hNo⟩, hB⟩
    have HL := zq (cg.out z hz W hB)
    have HH := zq (HHi.out z hz)
    have HzE := zq hzv
    have Ad := zq Cv
    have HT := zq hT
    have HB := zq hB
    have HNo := zq hNo.out
    have b6 := Cv.2.1.cell 0
    simp only [bJ, bD] at b6
    clear hz hzv Cv hT hNo hB un wV IZ HT5 HNo0 HSeq cg HHi ae
    generalize bs (aV z) = Z at *
    gi_wp2_with fail
    refine ⟨trivial, (Calls.round HL.out _ _).mono ?_⟩
    rintro e W6 ⟨⟨c1, rfl, Il⟩, hb6⟩
    have pF := zq (aT HB.out hb6)
    have HA6 := zq hb6
    have HBx6 := zq (Ad.out.below hb6)
    have HT6 := zq (HT.out.below hb6 HT.out.lt)
    have oh := zq Il
    clear hb6 Il b6 Ad HT
    by_cases h1 : c1 < 0
    ·have b7 := HBx6.out.2.2.1.cell 0
     simp only [bJ, bD] at b7
     have HCz := zq (oh.out.1 h1)
     gi_wp2_with fail
     refine ⟨trivial, (Calls.round (HH.out _ pF.out) _ _).mono ?_⟩
     rintro e W7 ⟨⟨c2, rfl, et⟩, hb7⟩
     have JO := zq (aT pF.out hb7)
     have HA7 := zq (aT HA6.out hb7)
     have TL := zq (HBx6.out.below hb7)
     have HT7 := zq (HT6.out.below hb7 HT6.out.lt)
     have Tc := zq et
     clear hb7 et b7 HBx6 HT6 pF HA6
     by_cases h2 : c2 < 0
     ·have VZ : aY (Tl fs x y) := ⟨z, HzE.out, HCz.out, Tc.out.1 h2⟩
      have r8 := TL.out.2.2.2.1.cell 0
      have r9 := TL.out.2.2.2.2.cell 0
      have z8 := TL.out.2.2.2.1.fz 0
      have z9 := TL.out.2.2.2.2.fz 0
      have l8 := TL.out.2.2.2.1.lt
      have l9 := TL.out.2.2.2.2.lt
      simp only [bJ, bD] at r8 r9
      gi_wp2
      have hK : KeepsFrom W5.heap.size W ((W7.setCell ⟨w.heap.size + 1 + 1 + 1, 0, none⟩ (aB none 0 0)).setCell ⟨w.heap.size + 1 + 1 + 1 + 1, 0, none⟩ (aF aG 2)) := (((qB HA7.out).trans (cE _ _ _)).trans (cE _ _ _)).from _
      obtain ⟨V, hV, b1, b2, Z7⟩ := TL.out.err (aB none 0 0) 2
      rw [hV] at hK ⊢
      exact ⟨hK, ⟨⟨b1, b2⟩, rfl, VZ.out⟩, Z7 _ JO.out⟩
     ·have KF := zq (TI HNo.out (fun h => h2 (Tc.out.2 h.2)))
      gi_wp2
      exact ⟨(qB HA7.out).from _, jI.call HA7.out HB.out.size, ⟨⟨TL.out, HT7.out⟩, KF⟩, JO.out⟩
    ·have KF := zq (TI HNo.out (fun h => h1 (oh.out.2 h.1)))
     gi_wp2
     refine ⟨trivial, ?_⟩
     gi_wp2
     exact ⟨(qB HA6.out).from _, jI.call HA6.out HB.out.size, ⟨⟨HBx6.out, HT6.out⟩, KF⟩, pF.out⟩
   case done =>
    rintro D W hD ⟨k, hF, ⟨⟨Cv, hT⟩, hNo⟩, hB⟩ hK
    have Ad := zq Cv
    have HT := zq hT
    have HB := zq hB
    have HK := zq hK
    have HD := zq (cC wV.out.size hD)
    have HDl := zq ((Array.getElem?_eq_some_iff.1 hK).1)
    have HNE : aY (¬ Tl fs x y) := fun ⟨z, h1, h2⟩ => hNo.out z (hF z h1) h2
    have HU5 := zq (HZ5.out HNE.out)
    have b4 := Cv.1.cell 0
    have b7 := Cv.2.2.1.cell 0
    simp only [bJ, bD] at b4 b7
    clear Cv hT hB hK hD hF hNo un wV IZ HT5 HNo0 HSeq cg HHi ae HY3 HZ5
    go_wp2_with fail
    refine (SU.out _ W.heap.size (HB.out.alloc HB.out.size _) (bZ.new W _ _)).mono ?_
    rintro e V1 ⟨⟨a3, c3, rfl, hra⟩, hb1⟩
    have LQ : aJ W.heap.size W V1 := ((aI _ W).alloc (aD _) _).trans (hb1.mono (by simp))
    have fK := zq (aT HB.out LQ)
    have Fv := zq (Ad.out.below LQ)
    have qr := zq (HT.out.below LQ HT.out.lt)
    have HK1 := zq ((LQ.block D HDl.out).trans HK.out)
    have HDl1 : aY (D < V1.heap.size) := by have h1 := HDl.out; have h2 := LQ.size; show _ < _; omega
    have Hra := zq hra
    clear hb1 hra LQ b4 b7 HB Ad HT HK SU HDl
    obtain ⟨k0, k1, z0, z1, lT⟩ := qr.out.two
    go_upto_region 13 with (fail)
    obtain ⟨V2, hV2⟩ : ∃ V, (V1.setCell ⟨T, 0, none⟩ (aB a nf ca)).setCell ⟨T, 1, none⟩ (aB a3 nf c3) = V := ⟨_, rfl⟩
    have MP : aY (bZ V2 T #[aB a nf ca, aB a3 nf c3] 58) := by rw [← hV2]; exact (qr.out.set 0 _).set 1 _
    have af : aY (Av w.heap.size a nf ca X Y V2) := by rw [← hV2]; exact (Fv.out.other _ HT1.out).other _ HT1.out
    have hTl : w.heap.size ≤ T := by have := HT1.out; omega
    have HDl2 : aY (D < V2.heap.size) := by rw [← hV2]; show _ < _; simpa using HDl1.out
    have gD : aY (aJ w.heap.size w V2) := by rw [← hV2]; exact (fK.out.setCell (p := ⟨T, 0, none⟩) hTl _).setCell (p := ⟨T, 1, none⟩) hTl _
    have Zz : aY (V2.heap[D]? = some (.deferred (some []))) := by rw [← hV2]; exact ((cE _ _ _).trans (cE _ _ _)).same D _ HK1.out rfl
    have TK : aY (xO V2 a3 IY) := by rw [← hV2]; exact OC (OC Hra.out qr.out 0 _) (qr.out.set 0 _) 1 _
    rw [hV2]
    clear hV2 fK Fv qr HK1 HDl1 Hra k0 k1 z0 z1 lT hTl
    go_wp2
    go_loopw [13, 65] (fun v i wr => ∃ (k vc : Nat) (va : Option dE) (IX : List Lp), v = aB va k vc ∧ (k = 0 → va = none ∧ vc = 0) ∧ i = aF aG (k : Int) ∧ k ≤ n ∧ aY (nB V2.heap.size wr v IX) ∧ aY (IX.map Lp.ps = (eV fs IY ls).take k) ∧ aY (aJ V2.heap.size V2 wr)) (fun _ i _ => n - (aK i).toNat)
    case atStart => exact ⟨0, 0, none, [], rfl, fun _ => ⟨rfl, rfl⟩, rfl, bR _, ⟨⟨rfl, .inl ⟨rfl, rfl⟩⟩, fun l h => absurd h (by simp)⟩, rfl, aI _ _⟩
    case round =>
     rename aE => wo
     obtain ⟨k, vc, va, IX, rfl, hva, rfl, hk, HO, HP, Km⟩ := hrel
     have Hva := zq hva
     clear hva
     have rO := zq (gD.out.trans (Km.out.mono gD.out.size))
     by_cases hlt : k < n
     ·obtain ⟨lb, lo, rfl, c0, rV⟩ := (HRl.out _ rO.out).at (i := k) (by rw [HLl.out]; exact hlt) rfl
      have HSzk := zq (HSz2.out k hlt)
      have HSdk := zq (HSd2.out k hlt)
      have Hmv : aY ((eV fs IY ls).take (k + 1) = (eV fs IY ls).take k ++ [mM fs IY (ls.getD k default).ps]) := by
       show _ = _
       have hl : k < (eV fs IY ls).length := by rw [vH, HLl.out]; exact hlt
       rw [List.take_succ_eq_append_getElem hl, ← Oo (by rw [HLl.out]; exact hlt)]
       simp [aN, hl]
      generalize ls.getD k default = l at *
      obtain ⟨lpb, lpo, hla, -⟩ := rV 0 (by have := HSzk.out.1; omega)
      have HCl := zq (TE lpb lpo l.ps.length l.cap l.ps wo rfl (by have := HSzk.out.2; omega) (by rw [← hla]; exact rV))
      obtain ⟨m, hm⟩ : ∃ m, l.ps.length = m := ⟨_, rfl⟩
      have hm4 : 4 ≤ m ∧ m ≤ 96 := by rw [← hm]; exact HSzk.out
      rw [hla] at c0
      rw [hm] at c0 HCl
      have Hm := zq hm
      have HSdm : aY (∀ j, j < m → ∃ s : Nat, (l.ps.getD j default).side = s ∧ s < nf) := by show ∀ j, j < m → _; rw [← hm]; exact HSdk.out
      clear rV HSzk HSdk hm hla
      generalize l.cap = lc at *
      generalize l.ps = ps at *
      go_wp2_with fail
      refine HCl.out.mono ?_
      rintro e V3 ⟨⟨g, cap, rfl, hown⟩, hb3⟩
      have HRow := zq hown
      have HB3 := zq hb3
      clear hown hb3 HCl c0
      have HPL : aY (ps.length = m) := Hm
      go_wp2
      go_loopw [73] (fun i w2 => ∃ j : Nat, i = aF aG (j : Int) ∧ j ≤ m ∧ aY (w2.ownsRow wo.heap.size 46 3 (aB (some ⟨g, 0, none⟩) m cap) m (dL (Ft fs IY ps j))) ∧ aY (aJ wo.heap.size wo w2)) (fun i _ => m - (aK i).toNat)
      case atStart => exact ⟨0, rfl, bR _, HRow, HB3⟩
      case round =>
       clear HRow HB3
       obtain ⟨j, rfl, hj, ag, yZ⟩ := hrel
       by_cases hjm : j < m
       ·rename aE => wi
        have HBv := zq (Km.out.trans (yZ.out.mono Km.out.size))
        have HBwi := zq (gD.out.trans (HBv.out.mono gD.out.size))
        have QQ : (j + 1) % m < m := fW _ (by omega)
        have GG := xU j m
        obtain ⟨s1, Dx, uj⟩ := HSdm.out j hjm
        obtain ⟨s2, AB, ht2⟩ := HSdm.out ((j + 1) % m) QQ
        have h2 : 2 ≤ ps.length := by rw [HPL.out]; omega
        have hML := Dj fs IY ps j
        rw [HPL.out] at hML
        have tm := OD (fs := fs) (at' := IY) h2 j (by rw [HPL.out]; omega) j (by rw [HPL.out]; exact hjm)
        have hS2 := OD (fs := fs) (at' := IY) h2 j (by rw [HPL.out]; omega) ((j + 1) % m) (by rw [HPL.out]; exact QQ)
        rw [Dx] at tm
        rw [AB] at hS2
        obtain ⟨M', hM'⟩ : ∃ t, Ft fs IY ps (j + 1) = t := ⟨_, rfl⟩
        have HMe := zq hM'
        have Mh : aY (M' = EC fs IY (Ft fs IY ps j) j) := by rw [← hM']; rfl
        clear hM'
        generalize Ft fs IY ps j = M at *
        have HCs : aY (xA fs (M.getD j default) ≠ xA fs (M.getD ((j + 1) % m) default) → ((dL M).set (j * 3 + 2) (aA (bs (IY.getD s2 [])))).set ((j + 1) % m * 3 + 1) (aA (bs (IY.getD s1 []))) = dL M') := fun hu => by
         have := TJ (at' := IY) (i := j) (by rw [hML]; omega) (by rw [hML]; exact hjm) (by rw [hML]) hu
         rw [tm, hS2] at this
         rw [Mh.out]; exact this
        have HCe : aY (xA fs (M.getD j default) = xA fs (M.getD ((j + 1) % m) default) → M' = M) := fun hu => by
         rw [Mh.out]; exact Wb (by rw [hML]) hu
        have hu1 : xA fs (M.getD j default) = (fs.getD s1 default).up := by unfold xA; rw [tm]; rfl
        have hu2 : xA fs (M.getD ((j + 1) % m) default) = (fs.getD s2 default).up := by unfold xA; rw [hS2]; rfl
        rw [hu1, hu2] at HCs HCe
        obtain ⟨d0, d1, d2⟩ := zF M j (by rw [hML]; exact hjm)
        obtain ⟨e0, e1, e2⟩ := zF M ((j + 1) % m) (by rw [hML]; exact QQ)
        rw [tm] at d0
        rw [hS2] at e0
        clear hu1 hu2 Dx AB tm hS2 Mh
        generalize (j + 1) % m = q at *
        have r0 : wi.cell? ⟨g, j * 3, none⟩ = some (aF aG s1) := (ag.out.cellAt (j * 3) (by omega)).trans d0
        have r1 : wi.cell? ⟨g, q * 3, none⟩ = some (aF aG s2) := (ag.out.cellAt (q * 3) (by omega)).trans e0
        obtain ⟨ab, ao, rfl⟩ : ∃ ab ao, a = some ⟨ab, ao, none⟩ := by
         obtain ⟨x, y, e, -⟩ := (HRf.out _ HBwi.out) s1 (by rw [HFl.out]; exact uj); exact ⟨x, y, e⟩
        obtain ⟨nb, no, rfl⟩ : ∃ nb no, a3 = some ⟨nb, no, none⟩ := by
         obtain ⟨x, y, e, -⟩ := TK.out s1 (by rw [qi.out]; exact uj); exact ⟨x, y, e⟩
        have U1 := (HRf.out _ HBwi.out).up (s := s1) (by rw [HFl.out]; exact uj)
        have U2 := (HRf.out _ HBwi.out).up (s := s2) (by rw [HFl.out]; exact ht2)
        have A1 := (TK.out.below HBv.out).get (s := s1) (by rw [qi.out]; exact uj)
        have A2 := (TK.out.below HBv.out).get (s := s2) (by rw [qi.out]; exact ht2)
        have b4 := (af.out.below HBv.out).1.cell 0
        obtain ⟨k0, k1, -, -, lT⟩ := (MP.out.below HBv.out MP.out.lt).two
        simp only [bJ, bD] at b4
        generalize (fs.getD s1 default).up = u1 at *
        generalize (fs.getD s2 default).up = u2 at *
        generalize bs (IY.getD s1 []) = P1 at *
        generalize bs (IY.getD s2 []) = P2 at *
        have jm : (j : Int) < (m : Int) := by omega
        have qm : (q : Int) < (m : Int) := by omega
        have n1 : (s1 : Int) < (nf : Int) := by omega
        have n2 : (s2 : Int) < (nf : Int) := by omega
        have p0 : (0 : Int) ≤ (j : Int) := by omega
        have q0 : (0 : Int) ≤ (q : Int) := by omega
        have w1 : IntKind.i64.wrap ((j : Int) + 1) = (j : Int) + 1 := aP _ (by omega)
        have hm0 : ¬ m = 0 := by omega
        clear d0 d1 e0 e2
        go_upto_region 22 with (fail)
        go_cut [19, 20] from 81 to 86 (fun v u W => v = cB (some ⟨g, j * 3, none⟩) ∧ u = cB (some ⟨g, q * 3, none⟩) ∧ ∃ nd, W = wi.drewN nd)
        case first =>
         go_quiet (fail)
         go_wp2
         go_meet
         case rel => exact ⟨rfl, rfl, _, rfl⟩
        case rest =>
        obtain ⟨rfl, rfl, dq, rfl⟩ := hcut
        go_upto_region 23 with (fail)
        go_cut [103] from 87 to 103 (fun v W => v = aM (!(u1 == u2)) ∧ ∃ nd, W = (wi.drewN dq).drewN nd)
        case first =>
         go_quiet (fail)
         go_wp2
         go_meet
         case rel => exact ⟨rfl, _, rfl⟩
        case rest =>
        obtain ⟨rfl, dq2, rfl⟩ := hcut
        go_upto_if 103 with (fail)
        obtain ⟨wd, XX⟩ : ∃ V, (wi.drewN dq).drewN dq2 = V := ⟨_, rfl⟩
        have R0 : wd.cell? ⟨g, j * 3, none⟩ = some (aF aG s1) := by rw [← XX]; exact r0
        have R1 : wd.cell? ⟨g, q * 3, none⟩ = some (aF aG s2) := by rw [← XX]; exact r1
        have B1 : wd.cell? ⟨nb, no + s1, none⟩ = some (aA P1) := by rw [← XX]; exact A1
        have B2 : wd.cell? ⟨nb, no + s2, none⟩ = some (aA P2) := by rw [← XX]; exact A2
        have K1 : wd.cell? ⟨T, 1, none⟩ = some (aB (some ⟨nb, no, none⟩) nf c3) := by rw [← XX]; exact k1
        have HRwd : aY (wd.ownsRow wo.heap.size 46 3 (aB (some ⟨g, 0, none⟩) m cap) m (dL M)) := by rw [← XX]; exact ag.out
        have hgo : wo.heap.size ≤ g := (dJ ag.out).1
        have lg : g < wd.heap.size := by rw [← XX]; exact (dJ ag.out).2.1
        have hVo : V2.heap.size ≤ wo.heap.size := Km.out.size
        have hTV : T < V2.heap.size := MP.out.lt
        have hnV : nb < V2.heap.size := World.block_lt_of_cell? V2 ⟨nb, no + s1, none⟩ (TK.out.get (s := s1) (by rw [qi.out]; exact uj))
        have f1 : wd.frozen? ⟨g, j * 3 + 2, none⟩ = false := by rw [← XX]; exact ag.out.frozenAt _
        have f2 : wd.frozen? ⟨g, q * 3 + 1, none⟩ = false := by rw [← XX]; exact ag.out.frozenAt _
        have F1 : wd.cell? ⟨g, j * 3 + 2, none⟩ = some (aA (bs (M.getD j default).en)) := by rw [← XX]; exact (ag.out.cellAt (j * 3 + 2) (by omega)).trans d2
        have F2 : wd.cell? ⟨g, q * 3 + 1, none⟩ = some (aA (bs (M.getD q default).fr)) := by rw [← XX]; exact (ag.out.cellAt (q * 3 + 1) (by omega)).trans e1
        have Nn : aY (aJ wo.heap.size wo wd) := by rw [← XX]; exact bH (bH yZ.out _) _
        rw [XX]
        have Hgo := zq hgo
        have g1 : ¬ nb = g := by omega
        have g2 : ¬ g = nb := by omega
        have g3 : ¬ T = g := by omega
        have g4 : ¬ g = T := by omega
        have g5 : ¬ j * 3 = q * 3 + 1 := by omega
        have g6 : ¬ q * 3 = j * 3 + 2 := by omega
        have g7 : ¬ j * 3 + 2 = q * 3 + 1 := by omega
        have g8 : ¬ q * 3 + 1 = j * 3 + 2 := by omega
        generalize bs (M.getD j default).en = EE at *
        generalize bs (M.getD q default).fr = FF at *
        clear XX r0 r1 A1 A2 k0 k1 lT U1 U2 b4 HBv HBwi GG d2 e1 hVo hTV hnV hgo
        by_cases hu : u1 = u2
        ·have hM := HCe.out hu
         have HRw2 : aY (wd.ownsRow wo.heap.size 46 3 (aB (some ⟨g, 0, none⟩) m cap) m (dL M')) := by rw [hM]; exact HRwd.out
         clear HCs HCe hM ag HRwd
         cases u1 <;> cases u2 <;> (try (exact absurd hu (by decide))) <;> clear hu
         all_goals
          go_wp2
          go_roundw
          case rel => exact ⟨j + 1, by go_num, by omega, by rw [HMe.out]; exact HRw2.out, Nn.out⟩
          case measure => simp only [aK]; omega
        ·have HC := zq (HCs.out hu)
         cases u1 <;> cases u2 <;> (try (exact absurd rfl hu)) <;> clear hu
         all_goals
          go_wp2
          go_region_held3 (fun w' => w'.cell? ⟨g, j * 3, none⟩ = some (aF aG s1) ∧ w'.cell? ⟨g, q * 3, none⟩ = some (aF aG s2) ∧ w'.cell? ⟨nb, no + s1, none⟩ = some (aA P1) ∧ w'.cell? ⟨nb, no + s2, none⟩ = some (aA P2) ∧ w'.cell? ⟨T, 1, none⟩ = some (aB (some ⟨nb, no, none⟩) nf c3) ∧ w'.frozen? ⟨g, j * 3 + 2, none⟩ = false ∧ w'.frozen? ⟨g, q * 3 + 1, none⟩ = false ∧ g < w'.heap.size) ((refine ⟨?_, ?_, ?_, ?_, ?_, ?_, ?_, ?_⟩) <;> (repeat (first | assumption | refine keepS (by intro e; injection e with e1 e2; omega) ?_ | refine keepD ?_ | refine keepDF ?_ | refine keepSF ?_ | refine keepDL ?_ | refine keepSL ?_))) (fail)
          all_goals
           have HRn : aY ((((wd.setCell ⟨g, j * 3 + 2, none⟩ (aA P2)).setCell ⟨g, q * 3 + 1, none⟩ (aA P1)).drew).ownsRow wo.heap.size 46 3 (aB (some ⟨g, 0, none⟩) m cap) m (dL M')) := by
            have := ((HRwd.out.stored (j * 3 + 2) (aA P2)).1.stored (q * 3 + 1) (aA P1)).1
            rw [HC.out] at this
            exact this
           have HBn : aY (aJ wo.heap.size wo (((wd.setCell ⟨g, j * 3 + 2, none⟩ (aA P2)).setCell ⟨g, q * 3 + 1, none⟩ (aA P1)).drew)) :=
            ((Nn.out.setCell (p := ⟨g, j * 3 + 2, none⟩) Hgo.out _).setCell (p := ⟨g, q * 3 + 1, none⟩) Hgo.out _).drew
           (try go_wp2)
           go_roundw
           case rel => exact ⟨j + 1, by go_num, by omega, by rw [HMe.out]; exact HRn.out, HBn.out⟩
           case measure => simp only [aK]; omega
       ·obtain rfl : m = j := by omega
        have hall : Ft fs IY ps m = mM fs IY ps := by rw [← HPL.out]; exact mv (by rw [HPL.out]; omega)
        rw [hall] at ag
        have HMl : aY ((mM fs IY ps).length = m) := by show _ = _; rw [sA]; exact HPL.out
        have HBo := zq (aT Km.out yZ.out)
        have Bq := zq (HO.out.below yZ.out)
        have QR := zq (gN ag.out Km.out.size)
        generalize mM fs IY ps = ML at *
        have wO : IX.length = k := by
         have := congrArg List.length HP.out
         rw [cG, List.length_take, vH, HLl.out] at this
         omega
        have SW := zq wO
        have cg : aY ((IX ++ [(⟨some ⟨g, 0, none⟩, cap, ML⟩ : Lp)]).map Lp.ps = (eV fs IY ls).take (k + 1)) := by
         show _ = _
         rw [List.map_append, HP.out, Hmv.out]; rfl
        have uE := Bq.out.1
        rw [wO] at uE
        have hk24 : k + 1 ≤ 2147483648 := by have := HNn.out; omega
        clear ag yZ HO HP Hmv hall wO hm4 hj
        go_wp2_with (at_builtin; refine TC rfl _ _ rfl V2.heap.size (aB va k vc) k _ rfl uE (some ⟨g, 0, none⟩) m cap rfl hk24 HBo.out.size ?_; intro g8 Fl w8 De hg8 Fm)
        have VE := zq (dB HBo.out Fm uE (aD _) HBo.out.size)
        have HO8 : aY (nB V2.heap.size w8 (aB (some ⟨g8, 0, none⟩) (k + 1) Fl) (IX ++ [⟨some ⟨g, 0, none⟩, cap, ML⟩])) := by
         have := nB.grow (l := ⟨some ⟨g, 0, none⟩, cap, ML⟩) (g := g8) (cap := Fl) Bq.out (by
          have := QR.out
          show B3 _ _ _ _ (aB (some ⟨g, 0, none⟩) ML.length cap) ML.length (dL ML)
          rw [HMl.out]; exact this) Fm (by
          rw [SW.out]
          show B3 _ _ _ _ _ _ (_ ++ [aB (some ⟨g, 0, none⟩) ML.length cap])
          rw [HMl.out]; exact De)
         rwa [SW.out] at this
        clear uE De Fm Bq QR
        go_wp2
        go_roundw
        case rel => exact ⟨k + 1, Fl, some ⟨g8, 0, none⟩, IX ++ [(⟨some ⟨g, 0, none⟩, cap, ML⟩ : Lp)], rfl, fun h => absurd h (by omega), by go_num, by omega, HO8, cg, VE⟩
        case measure => simp only [aK]; omega
     ·obtain rfl : n = k := by omega
      have zW : (eV fs IY ls).length = n := by rw [vH]; exact HLl.out
      have uP : aY (IX.map Lp.ps = eV fs IY ls) := by show _ = _; rw [HP.out, dH (by omega)]
      have HMl := zq zW
      have HCt := zq (HMh.cat wo va vc IX rO.out uP.out Hva.out (nB.reads HO.out))
      have UB := zq HMh.back
      have ZV := zq HMh.lim
      have HBxw := zq (af.out.below Km.out)
      have HKw : aY (wo.heap[D]? = some (.deferred (some []))) := (Km.out.block D HDl2.out).trans Zz.out
      have HDw : aY (D < wo.heap.size) := by have h1 := HDl2.out; have h2 := Km.out.size; show _ < _; omega
      clear HP zW HMh HSz2 HSd2 HRf HRl MP TK hlt hk
      generalize eV fs IY ls = MA at *
      obtain ⟨N, hN⟩ : ∃ N, MA.flatten.length = N := ⟨_, rfl⟩
      rw [hN] at HCt UB ZV
      clear hN
      go_wp2_with fail
      refine HCt.out.mono ?_
      rintro e W3 ⟨⟨pa, pc, rfl, hrp⟩, hb3⟩
      have HB3 := zq (aT rO.out hb3)
      have Fw := zq (HBxw.out.below hb3)
      have HK3 : aY (W3.heap[D]? = some (.deferred (some []))) := (hb3.block D HDw.out).trans HKw.out
      have HD3 : aY (D < W3.heap.size) := by have h1 := HDw.out; have h2 := hb3.size; show _ < _; omega
      have ot := zq (HO.out.below hb3)
      have Fe := zq hrp
      clear hb3 hrp HCt HBxw HKw HDw HO rO Km
      go_wp2_with fail
      refine (UB.out W3 w.heap.size pa pc HB3.out Fw.out.1 Fe.out).mono ?_
      rintro e W4 ⟨rfl, hb4⟩
      have vG := zq (aT HB3.out hb4)
      have A7 := zq (Fw.out.below hb4)
      have HK4 : aY (W4.heap[D]? = some (.deferred (some []))) := (hb4.block D HD3.out).trans HK3.out
      have HD4 : aY (D < W4.heap.size) := by have h1 := HD3.out; have h2 := hb4.size; show _ < _; omega
      have pd := zq (ot.out.below hb4)
      have HR4 := zq (Fe.out.below hb4)
      clear hb4 HB3 Fw HK3 HD3 ot Fe UB
      generalize MA.flatten.any (oR fs) = bk at *
      cases bk with
      | true =>
       have HX := zq (HRX.out 2 (by rw [HU5.out]; simp) (by decide))
       have r8 := A7.out.2.2.2.1.cell 0
       have r9 := A7.out.2.2.2.2.cell 0
       have z8 := A7.out.2.2.2.1.fz 0
       have z9 := A7.out.2.2.2.2.fz 0
       have l8 := A7.out.2.2.2.1.lt
       have l9 := A7.out.2.2.2.2.lt
       simp only [bJ, bD] at r8 r9
       go_wp2
       obtain ⟨V, hV, b1, b2, Z7⟩ := A7.out.err (aB none 0 0) 2
       have We : V.heap[D]? = some (.deferred (some [])) := by rw [← hV]; exact ((cE _ _ _).trans (cE _ _ _)).same D _ HK4.out rfl
       rw [hV]
       refine ⟨by simp, .inl ⟨_, _, rfl, gE We, ?_⟩⟩
       exact ⟨_, fF qS _ _ (w.heap.size + 1 + 1 + 1) (w.heap.size + 1 + 1 + 1 + 1) (aB none 0 0) (aF aG 2) rfl rfl ((b1.putObj _ We rfl).cell 0) ((b2.putObj _ We rfl).cell 0) uS pN, HX.out _ ((Z7 _ vG.out).trans (iG HD.out We))⟩
      | false =>
      go_wp2_with fail
      refine (ZV.out W4 pa pc vG.out HR4.out).mono ?_
      rintro e W5 ⟨rfl, hb5⟩
      have wV := zq (aT vG.out hb5)
      have IZ := zq (A7.out.below hb5)
      have HK5 : aY (W5.heap[D]? = some (.deferred (some []))) := (hb5.block D HD4.out).trans HK4.out
      have UC := zq (pd.out.below hb5)
      clear hb5 vG A7 HK4 HD4 pd HR4 ZV
      generalize MA.flatten.any uF = lm at *
      have r8 := IZ.out.2.2.2.1.cell 0
      have r9 := IZ.out.2.2.2.2.cell 0
      have z8 := IZ.out.2.2.2.1.fz 0
      have z9 := IZ.out.2.2.2.2.fz 0
      have l8 := IZ.out.2.2.2.1.lt
      have l9 := IZ.out.2.2.2.2.lt
      simp only [bJ, bD] at r8 r9
      cases lm with
      | true =>
       have HX := zq (HRX.out 4 (by rw [HU5.out]; simp) (by decide))
       go_wp2
       obtain ⟨V, hV, b1, b2, Z7⟩ := IZ.out.err (aB none 0 0) 4
       have We : V.heap[D]? = some (.deferred (some [])) := by rw [← hV]; exact ((cE _ _ _).trans (cE _ _ _)).same D _ HK5.out rfl
       rw [hV]
       refine ⟨by simp, .inl ⟨_, _, rfl, gE We, ?_⟩⟩
       exact ⟨_, fF qS _ _ (w.heap.size + 1 + 1 + 1) (w.heap.size + 1 + 1 + 1 + 1) (aB none 0 0) (aF aG 4) rfl rfl ((b1.putObj _ We rfl).cell 0) ((b2.putObj _ We rfl).cell 0) uS pN, HX.out _ ((Z7 _ wV.out).trans (iG HD.out We))⟩
      | false =>
       have hPE : PE = 0 := by rw [HU5.out]; simp
       have HPE := zq hPE
       have HPV := zq (My.out hPE)
       have HlV : aY (w.heap.size + 1 + 1 + 1 + 1 < V2.heap.size) := af.out.2.2.2.2.lt
       clear hPE
       go_wp2
       obtain ⟨V, hV, b1, b2, Z7⟩ := IZ.out.err (aB va n vc) 0
       have We : V.heap[D]? = some (.deferred (some [])) := by rw [← hV]; exact ((cE _ _ _).trans (cE _ _ _)).same D _ HK5.out rfl
       have HOV : nB V2.heap.size V (aB va n vc) IX := by
        rw [← hV]
        exact (UC.out.set (p := ⟨w.heap.size + 1 + 1 + 1, 0, none⟩) (by have := HlV.out; show w.heap.size + 1 + 1 + 1 < _; omega) _).set (p := ⟨w.heap.size + 1 + 1 + 1 + 1, 0, none⟩) HlV.out _
       rw [hV]
       refine ⟨by simp, .inl ⟨_, _, rfl, gE We, ?_⟩⟩
       refine ⟨_, fF qS _ _ (w.heap.size + 1 + 1 + 1) (w.heap.size + 1 + 1 + 1 + 1) (aB va n vc) (aF aG 0) rfl rfl ((b1.putObj _ We rfl).cell 0) ((b2.putObj _ We rfl).cell 0) uS pN, ?_⟩
       exact ⟨⟨va, vc, IX, by rw [HPV.out, HMl.out, HPE.out], by rw [HPV.out]; exact uP.out, nB.reads (HOV.putObj _ We rfl)⟩, (Z7 _ wV.out).trans (iG HD.out We)⟩
   case stop =>
    rintro D c k W hD ⟨⟨⟨hb1, hb2⟩, rfl, hv⟩, hB⟩ hK
    have HX := zq (HY3.out hv)
    have HB := zq hB
    have Hb1 := zq hb1
    have Hb2 := zq hb2
    have HK := zq hK
    have HD := zq (cC wV.out.size hD)
    clear hb1 hb2 hB un wV IZ HT5 HNo0 HSeq cg HHi ae HY3 hK hD
    go_wp2
    refine ⟨by simp, .inl ⟨_, _, rfl, gE HK.out, ?_⟩⟩
    exact ⟨_, fF qS _ _ (w.heap.size + 1 + 1 + 1) (w.heap.size + 1 + 1 + 1 + 1) (aB none 0 0) (aF aG 2) rfl rfl ((Hb1.out.putObj _ HK.out rfl).cell 0) ((Hb2.out.putObj _ HK.out rfl).cell 0) uS pN, HX.out _ (HB.out.trans (iG HD.out HK.out))⟩
end
end
section
open Go Go.RowKit Go.Lib
theorem chkT_96{fs:List Fr}{zs:List (List UInt8)}{ls:List Lp}(h:fH fs zs ls=0):∀i,i<ls.length→(ls.getD i default).ps.length≤96:=by
 unfold fH at h;by_cases h1:Ac fs=true
 ·rw[ip h1]at h;cases h
 rw[iN h1]at h;by_cases h2:GR zs zs.length=0
 ·rw[iN (by rw[h2];decide)]at h;by_cases h3:wE ls=true
  ·rw[ip h3]at h;cases h
  ·intro i hi;have h3:wE ls=false:=by simpa using h3
   unfold wE at h3;rw[Bool.or_eq_false_iff]at h3;have:=lU.1 h3.2 i hi;unfold Mc at this;simpa using this
 ·rw[ip h2]at h;exact absurd h h2
theorem ah{fs:List Fr}{at':List (List UInt8)}{ls:List Lp}{right:Bool}(h:mL fs at' ls right =true){i:Nat}(hi:i<ls.length):4≤(ls.getD i default).ps.length:=by
 unfold mL at h;have h1:=lU.1 (by simpa using h) i hi;unfold Kl at h1;have h2:fG fs at' (ls.getD i default).ps right =true:=by simpa using h1
 unfold fG at h2;simp only[Bool.and_eq_true]at h2;simpa using h2.1.1
theorem moveF(a b:Option dE)(nf n ca cb:Nat)(fs:List Fr)(ls:List Lp)(x y:List UInt8)(w:aE)(hE:eZ w)
 (hf:fs.length=nf)(hl:ls.length=n)(FK:nf≤1000)(hn:n≤1000000)(pK:∀f∈fs,f.sp.length≤30∧f.st.length≤30)(sW:Fk ls)(hy:y.length≤8000000)
 (rf:wP w a fs)(rl:zP w b ls)(h0:fH fs [x,y] ls=0):MoveF a b nf n ca cb fs ls x y w where
 tracer1 W g hW q:=by
  have rz:xO W (some ⟨g,0,none⟩) [y]:=by
   intro i hi
   have hi:i<1:=hi
   match i,hi with
   |0,_=>exact⟨_,_,rfl,q.cell 0⟩
  refine(uC a b (some ⟨g,0,none⟩) nf n 1 ca cb 1 fs ls [y] W (hE.below hW) hf hl rfl (by omega) hn (by decide) pK (fun z hz=>by simp only[Um,MM,or_false]at hz;subst hz;exact hy) (fun l h=>(sW l h).1) (rf.below hW) (rl.below hW) rz).mono ?_
  rintro e w'⟨⟨a1,n1,c1,a2,n2,c2,rfl,hk⟩,hb⟩
  have h1:=aa h0
  obtain⟨e1,e2,e3,h2⟩:=hk h1
  obtain⟨e4,h3⟩:=h2 (by simp)
  rw[h1,e1,e2,e3,e4]
  exact⟨⟨_,_,rfl,h3⟩,hb⟩
 rf W hW:=rf.below hW
 rl W hW:=rl.below hW
 flen:=hf
 len:=hl
 alen:=by rw[rR];exact hf
 nn:=by have:=(XW h0).2.2.2;omega
 size h i hi:=⟨ah h (by rw[hl];exact hi),chkT_96 h0 i (by rw[hl];exact hi)⟩
 side h i hi j hj:=by
  obtain⟨s,h1,h2⟩:=D3 h (by rw[hl];exact hi) hj
  exact⟨s,h1,by omega⟩
theorem Qf(a b:Option dE)(nf n ca cb:Nat)(fs:List Fr)(ls:List Lp)(x y:List UInt8)(w:aE)(hE:eZ w)
 (hf:fs.length=nf)(hl:ls.length=n)(FK:nf≤1000)(MB:nf≤ca)(hn:n≤1000000)(pK:∀f∈fs,f.sp.length≤30∧f.st.length≤30)(sW:Fk ls)(hx:x.length≤8000000)(hy:y.length≤8000000)
 (rf:wP w a fs)(rl:zP w b ls):
 aQ aC 11 #[aB a nf ca,aB b n cb,aA (bs x),aA (bs y)] w (G7 w (kZ fs ls x y) (iO fs ls x y)):=by
 have hC:=moveC a b nf n ca cb fs ls x y w hE hf hl FK hn pK sW hx hy rf rl;by_cases h0:fH fs [x,y] ls=0
 ·obtain⟨h1,h2,h3,h4⟩:=XW h0;have ZM:∀f∈fs,f.Ok:=fun f hm=>⟨h1 f hm,(pK f hm).1,(pK f hm).2⟩;have h24:=chkT_f h0;have hF:=moveF a b nf n ca cb fs ls x y w hE hf hl FK hn pK sW hy rf rl h0;refine Wc a b nf n ca cb fs ls x y w hC (moveE a nf ca fs x y w hE hf (by omega) MB ZM h2 h3 rf) hF (fun hA=>?_) h0 h2 h3;have ue:∀i,i<n→∀j,j<(ls.getD i default).ps.length→∃s:Nat,((ls.getD i default).ps.getD j default).side=s∧s<nf:=hF.side hA;have hmo:=fun i hi=>Tm (fs:=fs) (nf:=nf) sW (Mu ZM h3) (fun i hi=>ue i (by omega)) (i:=i) (by rw[hl];exact hi);exact moveH a nf n ca fs _ w hE hf (by rw[vH];exact hl) hF.nn (by omega) (fun f hf=>(ZM f hf).dir) (fun i hi=>by
   have:=hF.size hA i hi;rw[(hmo i hi).1];omega) (fun i hi j hj=>(hmo i hi).2 j (by rw[←(hmo i hi).1];exact hj)) rf
 ·exact TG a b nf n ca cb fs ls x y w hC h0
end
section
open Go Go.RowKit Go.Shelf Go.Lib
theorem sq_rdf{W:aE}{F:Nat}(h:bZ W F #[aM false,aF aG 0,aF aG 1,aA ⟨#[49]⟩,aA ⟨#[48]⟩,aM true,aF aG 10,aF aG (-1),aA ⟨#[49]⟩,aA ⟨#[48]⟩,aM false,aF aG 10,aF aG (-1),aA ⟨#[49]⟩,aA ⟨#[48]⟩,aM true,aF aG 0,aF aG 1,aA ⟨#[49]⟩,aA ⟨#[48]⟩] 44):wP W (some ⟨F,0,none⟩) xV:=by
 intro i hi;have hi:i<4:=hi;match i,hi with
 |0,_=>exact⟨_,_,rfl,fun j hj=>match j,hj with |0,_=>h.cell 0|1,_=>h.cell 1|2,_=>h.cell 2|3,_=>h.cell 3|4,_=>h.cell 4⟩
 |1,_=>exact⟨_,_,rfl,fun j hj=>match j,hj with |0,_=>h.cell 5|1,_=>h.cell 6|2,_=>h.cell 7|3,_=>h.cell 8|4,_=>h.cell 9⟩
 |2,_=>exact⟨_,_,rfl,fun j hj=>match j,hj with |0,_=>h.cell 10|1,_=>h.cell 11|2,_=>h.cell 12|3,_=>h.cell 13|4,_=>h.cell 14⟩
 |3,_=>exact⟨_,_,rfl,fun j hj=>match j,hj with |0,_=>h.cell 15|1,_=>h.cell 16|2,_=>h.cell 17|3,_=>h.cell 18|4,_=>h.cell 19⟩
theorem sq_rdp{W:aE}{P:Nat}(h:bZ W P #[aF aG 0,aA ⟨#[48]⟩,aA ⟨#[49,48]⟩,aF aG 1,aA ⟨#[48]⟩,aA ⟨#[49,48]⟩,aF aG 2,aA ⟨#[49,48]⟩,aA ⟨#[48]⟩,aF aG 3,aA ⟨#[49,48]⟩,aA ⟨#[48]⟩] 46):Fg W (some ⟨P,0,none⟩) (A6 [48] [49,48]):=by
 intro i hi;have hi:i<4:=hi;match i,hi with
 |0,_=>exact⟨_,_,rfl,fun j hj=>match j,hj with |0,_=>h.cell 0|1,_=>h.cell 1|2,_=>h.cell 2⟩
 |1,_=>exact⟨_,_,rfl,fun j hj=>match j,hj with |0,_=>h.cell 3|1,_=>h.cell 4|2,_=>h.cell 5⟩
 |2,_=>exact⟨_,_,rfl,fun j hj=>match j,hj with |0,_=>h.cell 6|1,_=>h.cell 7|2,_=>h.cell 8⟩
 |3,_=>exact⟨_,_,rfl,fun j hj=>match j,hj with |0,_=>h.cell 9|1,_=>h.cell 10|2,_=>h.cell 11⟩
theorem Wf(w:aE):aQ aC 20 #[] w fun e w'=>(∃a b la,e=aO (bO #[aB a 4 4,aB b 1 1])∧wP w' a xV∧zP w' b [⟨la,4,A6 [48] [49,48]⟩])∧aJ w.heap.size w w':=by
 obtain⟨W0,iU⟩:∃V,((w.alloc (aL #[aM false,aF aG 0,aF aG 1,aA ⟨#[49]⟩,aA ⟨#[48]⟩,aM true,aF aG 10,aF aG (-1),aA ⟨#[49]⟩,aA ⟨#[48]⟩,aM false,aF aG 10,aF aG (-1),aA ⟨#[49]⟩,aA ⟨#[48]⟩,aM true,aF aG 0,aF aG 1,aA ⟨#[49]⟩,aA ⟨#[48]⟩] 44)).alloc (aL #[aF aG 0,aA ⟨#[48]⟩,aA ⟨#[49,48]⟩,aF aG 1,aA ⟨#[48]⟩,aA ⟨#[49,48]⟩,aF aG 2,aA ⟨#[49,48]⟩,aA ⟨#[48]⟩,aF aG 3,aA ⟨#[49,48]⟩,aA ⟨#[48]⟩] 46)).alloc (aL #[aB (some ⟨w.heap.size+1,0,none⟩) 4 4] 38)=V:=⟨_,rfl⟩;have R:aY ((∃a b la,(aO (bO #[aB (some ⟨w.heap.size,0,none⟩) 4 4,aB (some ⟨w.heap.size+1+1,0,none⟩) 1 1]))=aO (bO #[aB a 4 4,aB b 1 1])∧wP W0 a xV∧zP W0 b [⟨la,4,A6 [48] [49,48]⟩])∧aJ w.heap.size w W0):=by
  rw[←iU];refine⟨⟨_,_,some ⟨w.heap.size+1,0,none⟩,rfl,sq_rdf (((bZ.new w _ _).alloc _).alloc _),?_⟩,(((aI _ w).alloc (aD _) _).alloc (by simp) _).alloc (by simp <;>omega) _⟩;have q1:=(bZ.new (w.alloc (aL #[aM false,aF aG 0,aF aG 1,aA ⟨#[49]⟩,aA ⟨#[48]⟩,aM true,aF aG 10,aF aG (-1),aA ⟨#[49]⟩,aA ⟨#[48]⟩,aM false,aF aG 10,aF aG (-1),aA ⟨#[49]⟩,aA ⟨#[48]⟩,aM true,aF aG 0,aF aG 1,aA ⟨#[49]⟩,aA ⟨#[48]⟩] 44)) #[aF aG 0,aA ⟨#[48]⟩,aA ⟨#[49,48]⟩,aF aG 1,aA ⟨#[48]⟩,aA ⟨#[49,48]⟩,aF aG 2,aA ⟨#[49,48]⟩,aA ⟨#[48]⟩,aF aG 3,aA ⟨#[49,48]⟩,aA ⟨#[48]⟩] 46).alloc (aL #[aB (some ⟨w.heap.size+1,0,none⟩) 4 4] 38);have q2:=bZ.new ((w.alloc (aL #[aM false,aF aG 0,aF aG 1,aA ⟨#[49]⟩,aA ⟨#[48]⟩,aM true,aF aG 10,aF aG (-1),aA ⟨#[49]⟩,aA ⟨#[48]⟩,aM false,aF aG 10,aF aG (-1),aA ⟨#[49]⟩,aA ⟨#[48]⟩,aM true,aF aG 0,aF aG 1,aA ⟨#[49]⟩,aA ⟨#[48]⟩] 44)).alloc (aL #[aF aG 0,aA ⟨#[48]⟩,aA ⟨#[49,48]⟩,aF aG 1,aA ⟨#[48]⟩,aA ⟨#[49,48]⟩,aF aG 2,aA ⟨#[49,48]⟩,aA ⟨#[48]⟩,aF aG 3,aA ⟨#[49,48]⟩,aA ⟨#[48]⟩] 46)) #[aB (some ⟨w.heap.size+1,0,none⟩) 4 4] 38;rw[aS]at q1;rw[aS,aS]at q2;intro i hi;have hi:i<1:=hi;match i,hi with
  |0,_=>exact⟨_,_,rfl,q2.cell 0,sq_rdp q1⟩
 go_enter func20,ntmps20;go_wp2;try rw[iU]
 go_ret2;exact R.out
end
end Go.Proofs.YtcimoodjlopdaaaGreatDoor
