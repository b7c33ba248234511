import Derived.BigRegion
import Derived.BigQuiet
import Derived.Deep.QuietTactic
import Derived.Test.YtkchhginppjaiaaGreatDoorZ0
import Derived.Test.YtkchhginppjaiaaGreatDoorZ2
import Derived.Test.YtkchhginppjaiaaGreatDoorZ3
import Derived.Test.YtkchhginppjaiaaGreatDoorZ4
import Derived.Test.YtkchhginppjaiaaGreatDoorZ6
import Derived.Test.YtkchhginppjaiaaGreatDoorZ8
import Derived.Test.YtkchhginppjaiaaGreatDoorZ9
namespace Go.Proofs.YtkchhginppjaiaaGreatDoor
set_option maxRecDepth 100000
set_option maxHeartbeats 8000000
set_option linter.all false
open Go.Proofs.Tryz
open _root_.Array renaming replicate_succ->cA,replicate_zero->cB
open _root_.Bool renaming and_eq_true->bQ,false_eq_true->bS
open _root_.Classical renaming byContradiction->cZ
open _root_.Go renaming World->aF,Value->aP,Calls->bE,Addr->cO,below_drewN->eF,results_tmp->iS,run_takeDeferred->nD,grownBy_putObj'->rO,ownFrom_below->yY
open Go.Calls renaming mono->yZ
open Go.Ending renaming returned->bA
open Go.IntKind renaming i64->aB
open Go.IntWalk renaming i64_in->bI
open Go.KeepsOthers renaming setCell->dG
open Go.Obj renaming cells->aN
open Go.Oper renaming semAt_some->gM
open Go.OwnFrom renaming and->eO
open Go.Proofs renaming enters_of->mB
open Go.Proofs.Tryz renaming prog->aE,isAgg28->yC,results17->Ec,isAgg31->Jw
open Go.RowKit renaming intOf->aK,Hid->bK
open Go.RowKit.Below renaming refl->aL
open Go.Value renaming string->aA,int->aC,slice->aD,bool->aV,pointer->aY,agg->cF,tuple->cK
open Go.World renaming block_lt_of_cell?->bB,size_alloc->bH,ownsRow->RY
open _root_.Int renaming toNat_of_nonneg->fJ,toNat_natCast->nX,add_sub_cancel->tw
open _root_.List renaming getD_eq_getElem?_getD->aG,getElem?_cons_zero->aI,getElem?_toArray->aJ,set_cons_succ->aW,length_map->aZ,length_cons->bD,length_append->bO,length_nil->bV,size_toArray->cD,append_toArray->cH,cons_append->cJ,take_succ_eq_append_getElem->cN,push_toArray->cR,mem_cons_self->cW,mem_cons_of_mem->dA,nil_append->dF,mem_singleton->eJ,take_of_length_le->eM,map_append->eV,length_drop->eZ,getElem_of_mem->fI,length_range->kO,mem_map_of_mem->kZ,mem_cons->nI,getD_cons_succ->nR,append_nil->pZ,flatten_cons->uV,not_mem_nil->wA
open _root_.List.Pairwise renaming nil->Jv
open _root_.Nat renaming le_refl->aH,le_trans->aU,zero_le->bM,mod_eq_of_lt->bY,mod_lt->dB,reduceAdd->dQ,reduceSub->dR,lt_or_ge->fP,mod_add_mod->iE,mod_self->zP,le_of_eq->A9,add_comm->D9
section
open Go Go.RowKit Go.Shelf Go.Lib
section
attribute[local go_sem] gM
theorem cmpR_pos(a b:Rat):(0<nH a b)↔(nH b a<0):=by
 unfold nH;by_cases h:a<b
 ·have k:¬b<a:=by grind
  simp[h,k]
 ·by_cases k:b<a<;>simp[h,k]
theorem U4{x y:List UInt8}(hx:Sm x)(hy:Sm y):(0<(fH x y).1)↔((fH y x).1<0):=by
 rw[hx.cmp hy,hy.cmp hx];exact cmpR_pos _ _
def AK(hs:Nat)(a:Option cO)(nf ca:Nat)(X Y:ByteArray)(W:aF):Prop:=
 bT W hs #[aD a nf ca] 27∧bT W (hs+1) #[aA X] 34∧bT W (hs+1+1) #[aA Y] 34∧bT W (hs+1+1+1) #[aD none 0 0] 31∧bT W (hs+1+1+1+1) #[aC aB 0] 28
theorem AK.below{hs:Nat}{a:Option cO}{nf ca:Nat}{X Y:ByteArray}{W W':aF}(h:AK hs a nf ca X Y W)(hb:Below W.heap.size W W'):AK hs a nf ca X Y W':=
 ⟨h.1.below hb h.1.lt,h.2.1.below hb h.2.1.lt,h.2.2.1.below hb h.2.2.1.lt,h.2.2.2.1.below hb h.2.2.2.1.lt,h.2.2.2.2.below hb h.2.2.2.2.lt⟩
theorem AK.alloc{hs:Nat}{a:Option cO}{nf ca:Nat}{X Y:ByteArray}{W:aF}(h:AK hs a nf ca X Y W)(o:Obj):AK hs a nf ca X Y (W.alloc o):=h.below ((aL _ W).alloc (aH _) o)
theorem AK.new(a:Option cO)(nf ca:Nat)(X Y:ByteArray)(w:aF):∃W,((((w.alloc (aN #[aD a nf ca] 27)).alloc (aN #[aA X] 34)).alloc (aN #[aA Y] 34)).alloc (aN #[aD none 0 0] 31)).alloc (aN #[aC aB 0] 28)=W∧
 AK w.heap.size a nf ca X Y W∧Below w.heap.size w W:=by
 refine⟨_,rfl,⟨((((bT.new w _ _).alloc _).alloc _).alloc _).alloc _,?_,?_,?_,?_⟩,(((((aL _ w).alloc (aH _) _).alloc (by simp) _).alloc (by simp;omega) _).alloc (by simp;omega) _).alloc (by simp;omega) _⟩
 ·have:=(((bT.new (w.alloc (aN #[aD a nf ca] 27)) #[aA X] 34).alloc (aN #[aA Y] 34)).alloc (aN #[aD none 0 0] 31)).alloc (aN #[aC aB 0] 28);simpa[bH]using this
 ·have:=((bT.new ((w.alloc (aN #[aD a nf ca] 27)).alloc (aN #[aA X] 34)) #[aA Y] 34).alloc (aN #[aD none 0 0] 31)).alloc (aN #[aC aB 0] 28);simpa[bH]using this
 ·have:=(bT.new (((w.alloc (aN #[aD a nf ca] 27)).alloc (aN #[aA X] 34)).alloc (aN #[aA Y] 34)) #[aD none 0 0] 31).alloc (aN #[aC aB 0] 28);simpa[bH]using this
 ·have:=bT.new ((((w.alloc (aN #[aD a nf ca] 27)).alloc (aN #[aA X] 34)).alloc (aN #[aA Y] 34)).alloc (aN #[aD none 0 0] 31)) #[aC aB 0] 28;simpa[bH]using this
theorem ll(a:Option cO)(nf ca:Nat)(w:aF):
 bE aE 43 #[aD a nf ca] w fun e w'=>e=bA (.func (.func 118) #[] #[aY (some ⟨w.heap.size,0,none⟩)])∧w'=w.alloc (aN #[aD a nf ca] 27):=by
 go_enter func43,ntmps43;go_wp2;go_ret;exact⟨rfl,rfl⟩
end
structure MoveC(a b:Option cO)(nf n ca cb:Nat)(fs:List Fr)(ls:List Lp)(x y:List UInt8)(w:aF):Prop where
 tracer2:∀W g,Below w.heap.size w W→bT W g #[aA (bs x),aA (bs y)] 34→bE aE 32 #[aD a nf ca,aD b n cb,aD (some ⟨g,0,none⟩) 2 2] W (dr a nf ca fs [x,y] W)
 all:∀a2 c2 W,Below w.heap.size w W→yJ W a2 (fR fs x)→bE aE 33 #[cF #[aD a nf ca,aD a2 nf c2],aD b n cb,aV true] W (Rt (aV true) W)
 cmp:∀W,Below w.heap.size w W→bE aE 42 #[aA (bs x),aA (bs y)] W (Rt (aC aB (fH x y).1) W)
theorem moveC(a b:Option cO)(nf n ca cb:Nat)(fs:List Fr)(ls:List Lp)(x y:List UInt8)(w:aF)(hE:mN w)
 (hT:Kf w a b nf n fs ls)(hx:Lz x)(hy:Lz y)(hA:tO fs (fR fs x) ls true=true):MoveC a b nf n ca cb fs ls x y w where
 tracer2 W g hW q:=by
  have rz:yJ W (some ⟨g,0,none⟩) [x,y]:=by
   intro i hi
   have hi:i<2:=hi
   match i,hi with
   |0,_=>exact⟨_,_,rfl,q.cell 0⟩
   |1,_=>exact⟨_,_,rfl,q.cell 1⟩
  exact sF a b (some ⟨g,0,none⟩) nf n 2 ca cb 2 fs ls [x,y] W (hE.below hW) (hT.below hW) rfl (by decide) (fun z hz=>by simp only[nI,wA,or_false]at hz;rcases hz with rfl|rfl<;>assumption) rz
 all a2 c2 W hW ra:=Qr a a2 b nf n ca c2 cb fs (fR fs x) ls true W (hE.below hW) hT.hf (by rw[uA];exact hT.hf) hT.hl hT.hm (fun f hm=>(hT.hF f hm).dir) hT.hL (hT.rf.below hW) ra (hT.rl.below hW) hA
 cmp W hW:=mL x y W (hE.below hW) hx.sm hy.sm
theorem AK.err{hs:Nat}{a:Option cO}{nf ca:Nat}{X Y:ByteArray}{W:aF}(h:AK hs a nf ca X Y W)(v:aP)(c:Int):
 ∃V,(W.setCell ⟨hs+1+1+1,0,none⟩ v).setCell ⟨hs+1+1+1+1,0,none⟩ (aC aB c)=V∧
  bT V (hs+1+1+1) #[v] 31∧bT V (hs+1+1+1+1) #[aC aB c] 28∧∀u,Below hs u W→Below hs u V:=
 ⟨_,rfl,(h.2.2.2.1.set 0 _).other _ (by show hs+1+1+1≠hs+1+1+1+1;omega),(h.2.2.2.2.other _ (by show hs+1+1+1+1≠hs+1+1+1;omega)).set 0 _,
  fun u hu=>(hu.setCell (by show hs≤hs+1+1+1;omega) _).setCell (by show hs≤hs+1+1+1+1;omega) _⟩
theorem gJ.set{B:Nat}{W:aF}{v:aP}{los:List Lp}(h:gJ B W v los){p:cO}(hp:p.block<B)(u:aP):gJ B (W.setCell p u) v los:=
 ⟨mX h.1 hp u,fun l hl=>mX (h.2 l hl) hp u⟩
theorem gJ.putObj{B:Nat}{W:aF}{v:aP}{los:List Lp}(h:gJ B W v los){l:Nat}{o:Obj}(o':Obj)(hl:W.heap[l]? =some o)(ho:o.isCells=false):gJ B (W.putObj l o') v los:=
 ⟨kV h.1 (rO W l o') (fun r e=>by cases e;exact⟨o,hl,ho⟩),fun x hx=>kV (h.2 x hx) (rO W l o') (fun r e=>by cases e;exact⟨o,hl,ho⟩)⟩
theorem lm(w:aF):bE aE 119 #[aD none 0 0,aC aB 0] w (Rt (aD none 0 0) w):=by
 go_enter func119,ntmps119;go_wp2;go_ret;exact⟨rfl,aL _ _⟩
theorem U5(w:aF):bE aE 45 #[aD none 0 0] w (Rt (aD none 0 0) w):=by
 have HG:=zq (fun W=>lm W);go_enter func45,ntmps45;go_wp2;go_loop [3,11] (fun s i=>i=aC aB 0∧s=aC aB 0) (fun _ i=>0-(aK i).toNat);case atStart=>exact⟨rfl,rfl⟩
 case round=>
  obtain⟨rfl,rfl⟩:=hrel;go_wp2_with fail
  refine(HG.out _).mono ?_;rintro e W1⟨rfl,hb1⟩;have eC:=zq hb1;clear hb1;go_wp2;go_loopw[6,27] (fun o i wr=>i=aC aB 0∧o=aD none 0 0∧bK (Below w.heap.size w wr)) (fun _ i _=>0-(aK i).toNat);case atStart=>exact⟨rfl,rfl,eC.out⟩
  case round=>
   obtain⟨rfl,rfl,HB⟩:=hrel;go_wp2;go_ret;exact⟨rfl,HB.out⟩
structure MoveH(a:Option cO)(nf n ca:Nat)(fs:List Fr)(MA:List (List Pt))(w:aF):Prop where
 cat:∀W va vc IU,Below w.heap.size w W→IU.map Lp.ps=MA→(n=0→va=none∧vc=0)→E5 W va IU→bE aE 45 #[aD va n vc] W fun e w'=>(∃pa pc,e=bA (aD pa MA.flatten.length pc)∧FE w' pa MA.flatten)∧Below W.heap.size W w'
 back:∀W Bf pa pc,Below w.heap.size w W→bT W Bf #[aD a nf ca] 27→FE W pa MA.flatten→bE aE 46 #[aD pa MA.flatten.length pc,.func (.func 47) #[] #[aY (some ⟨Bf,0,none⟩)]] W (Rt (aV (MA.flatten.any (Eu fs))) W)
 lim:∀W pa pc,Below w.heap.size w W→FE W pa MA.flatten→bE aE 46 #[aD pa MA.flatten.length pc,.func (.func 50) #[] #[]] W (Rt (aV false) W)
theorem moveH(a:Option cO)(nf n ca:Nat)(fs:List Fr)(MA:List (List Pt))(w:aF)(hE:mN w)(hf:fs.length=nf)(hl:MA.length=n)(hn:n≤24)(eu:nf≤1000000)
 (hdir:∀f∈fs,f.dir=1∨f.dir= -1)(hlen:∀i,i<n→1≤(MA.getD i []).length∧(MA.getD i []).length≤96)
 (hpt:∀i,i<n→∀j,j<(MA.getD i []).length→(∃s:Nat,((MA.getD i []).getD j default).side=s∧s<nf)∧Sm ((MA.getD i []).getD j default).fr∧Sm ((MA.getD i []).getD j default).en)
 (rf:vT w a fs):MoveH a nf n ca fs MA w:=by
 have Ie:∀p∈MA.flatten,(∃s:Nat,p.side=s∧s<nf)∧Sm p.fr∧Sm p.en:=by
  intro p hp;obtain⟨l,qd,hp⟩:=List.mem_flatten.1 hp;obtain⟨i,hi,rfl⟩:=fI qd;obtain⟨j,hj,rfl⟩:=fI hp;have e1:MA.getD i []=MA[i]:=by simp[aG,hi]
  have e2:MA[i].getD j default=MA[i][j]:=by simp[aG,hj]
  have:=hpt i (by omega) j (by rw[e1];exact hj);rwa[e1,e2]at this
 have qJ:MA.flatten.length≤1000000:=by
  have:∀(L:List (List Pt)),(∀l∈L,l.length≤96)→L.flatten.length≤L.length*96:=by
   intro L;induction L with
   |nil=>intro _;exact aH _
   |cons l L ih=>
    intro h;have h1:=h l (by simp);have h2:=ih (fun x hx=>h x (by simp[hx]));rw[uV,bO,bD];omega
  have:=this MA (fun l qd=>by
   obtain⟨i,hi,rfl⟩:=fI qd;have e1:MA.getD i []=MA[i]:=by simp[aG,hi]
   rw[←e1];exact(hlen i (by omega)).2)
  omega
 refine⟨fun W va vc IU hW hm h0 rl=>?_,fun W Bf pa pc hW hb rp=>?_,fun W pa pc hW rp=>?_⟩
 ·have hll:IU.length=n:=by rw[←hl,←hm,aZ]
  have zG:∀i,i<n→(IU.getD i default).ps=MA.getD i []:=fun i hi=>by
   rw[←hm];have:i<IU.length:=by omega
   simp[aG,this]
  have hall:nV IU=MA.flatten:=by rw[←hm];exact List.flatMap_def ..
  have Kg:kK IU n=MA.flatten.length:=by
   rw[←Bu n (by omega),eM (by omega),hall]
  by_cases hz:n=0
  ·obtain⟨rfl,rfl⟩:=h0 hz;subst hz;have e0:MA=[]:=List.length_eq_zero_iff.1 hl;subst e0;refine(U5 W).mono ?_;rintro e w'⟨rfl,hb⟩;exact⟨⟨none,0,rfl,fun i hi=>absurd hi (by simp)⟩,hb⟩
  ·have hpos:0<kK IU n:=by
    obtain⟨m,rfl⟩:∃m,n=m+1:=⟨n-1,by omega⟩;have:=(hlen m (by omega)).1;rw[←zG m (by omega)]at this;show 0<kK IU m+_;omega
   refine(Q9 va n vc IU W hll (by omega) (fun i hi=>by rw[zG i hi];have:=(hlen i hi).2;omega) (fun i hi=>by rw[zG i hi];exact(hlen i hi).1) hpos rl).mono ?_;rintro e w'⟨⟨g,cap,rfl,hr⟩,hb⟩;rw[Kg];rw[hall]at hr;exact⟨⟨_,_,rfl,hr⟩,hb⟩
 ·refine(Tn 47 #[aY (some ⟨Bf,0,none⟩)] (mB func47 (by kernel_rfl) rfl) pa _ pc MA.flatten (fun k=>Eu fs (MA.flatten.getD k default)) W rfl (by omega) rp (fun i hi W2 h2=>?_)).mono ?_
  ·obtain⟨⟨s,hs,Ic⟩,h3,h4⟩:=Ie _ (bU hi default);have:=tr_Move1 Bf a nf ca fs (MA.flatten.getD i default) s W2 (hE.below (aQ hW h2)) hf hs Ic eu hdir h3 h4 (rf.below (aQ hW h2)) (hb.below h2 hb.lt);exact this
  ·rintro e w'⟨rfl,JG⟩;exact⟨by rw[any_anyN],JG⟩
 ·refine(Tn 50 #[] (mB func50 (by kernel_rfl) rfl) pa _ pc MA.flatten (fun _=>false) W rfl (by omega) rp (fun i hi W2 h2=>?_)).mono ?_
  ·obtain⟨-,h3,h4⟩:=Ie _ (bU hi default);rw[Array.append_empty];exact tr_Move2 (MA.flatten.getD i default) W2 (hE.below (aQ hW h2)) h3 h4
  ·rintro e w'⟨rfl,JG⟩;exact⟨by rw[Gl fun _ _=>rfl],JG⟩
section
attribute[local go_sem] gM
structure MoveE(a:Option cO)(nf ca:Nat)(fs:List Fr)(x y:List UInt8)(w:aF):Prop where
 seq:∀W Bf,Below w.heap.size w W→bT W Bf #[aD a nf ca] 27→zl Fence.wide 8 aE 118 #[aY (some ⟨Bf,0,none⟩)] (fun z:Rat=> #[aA (bs (bG z))]) (fun _ z=>Ce z∧zk fs z) (fun k=>∀z,zk fs z→z∈k) (iW w.heap.size) W
 lo:∀z,Ce z→∀W,Below w.heap.size w W→bE aE 42 #[aA (bs x),aA (bs (bG z))] W fun e w'=>(∃c:Int,e=bA (aC aB c)∧(c<0↔cT x<z))∧Below W.heap.size W w'
 hi:∀z,Ce z→∀W,Below w.heap.size w W→bE aE 42 #[aA (bs (bG z)),aA (bs y)] W fun e w'=>(∃c:Int,e=bA (aC aB c)∧(c<0↔z<cT y))∧Below W.heap.size W w'
theorem lp(a b:Rat):nH a b<0↔a<b:=by
 unfold nH;by_cases h:a<b
 ·simp[h]
 ·by_cases k:b<a<;>simp[h,k]
theorem Z4{x y:List UInt8}(hx:Sm x)(hy:Sm y):(fH x y).1<0↔cT x<cT y:=by rw[hx.cmp hy];exact lp _ _
theorem moveE(a:Option cO)(nf ca:Nat)(fs:List Fr)(x y:List UInt8)(w:aF)(hE:mN w)(hf:fs.length=nf)(eu:nf≤24)(IT:nf≤ca)(hOk:∀f∈fs,f.Ok)(hx:Lz x)(hy:Lz y)(rf:vT w a fs):MoveE a nf ca fs x y w:={
 seq W Bf hW hb:=ev_seq zo Bf w.heap.size a nf ca fs hf eu hOk W hW.size hb.lt (fun V hV=>hE.below (hW.trans hV)) (fun V hV=>rf.below (hW.trans hV)) IT hb
 lo z hz W hW:=by
  refine(mL x (bG z) W (hE.below hW) hx.sm (Lz.of hz).sm).mono ?_;rintro e w'⟨rfl,hb⟩;exact⟨⟨_,rfl,by rw[Z4 hx.sm (Lz.of hz).sm,gG]⟩,hb⟩
 hi z hz W hW:=by
  refine(mL (bG z) y W (hE.below hW) (Lz.of hz).sm hy.sm).mono ?_;rintro e w'⟨rfl,hb⟩;exact⟨⟨_,rfl,by rw[Z4 (Lz.of hz).sm hy.sm,gG]⟩,hb⟩}
theorem lu{F:Fence}{n:Nat}{P:Program}{fn:Func}{R:Ending→aF→Prop}{a:Act}{w:aF}{v:aP}(h:(results fn a.tmps).run P w=.ok v w)(hd:a.defers=[])(hR:R (bA v) w):bodyPostM F n P fn R .ret a w:=by
 show LeavesInM _ _ _ _ _ _ _ _ _;rw[hd];exact⟨v,h,hR⟩
theorem U6{k:List Rat}{z lo hi:Rat}(h:∀t∈k,¬(lo<t∧t<hi))(hz:¬(lo<z∧z<hi)):∀t∈k++[z],¬(lo<t∧t<hi):=fun t ht=>by
 rcases List.mem_append.1 ht with h'|h'
 ·exact h t h'
 ·rw[List.mem_singleton.1 h'];exact hz
theorem AK.other{hs:Nat}{a:Option cO}{nf ca:Nat}{X Y:ByteArray}{W:aF}(h:AK hs a nf ca X Y W){p:cO}(v:aP)(hp:hs+1+1+1+1<p.block):AK hs a nf ca X Y (W.setCell p v):=
 ⟨h.1.other v (by omega),h.2.1.other v (by omega),h.2.2.1.other v (by omega),h.2.2.2.1.other v (by omega),h.2.2.2.2.other v (by omega)⟩
theorem Pw{W:aF}{a:Option cO}{zs:List (List UInt8)}{T:Nat}{a1 a2:Option cO}{n1 c1 n2 c2:Nat}{T':TypeId}(h:yJ W a zs)(q:bT W T #[aD a1 n1 c1,aD a2 n2 c2] T')(j:Nat)(v:aP):yJ (W.setCell ⟨T,j,none⟩ v) a zs:=by
 intro i hi;obtain⟨b,off,e,hc⟩:=h i hi;refine⟨b,off,e,?_⟩;by_cases hb:b=T
 ·subst hb;rw[q.cell (off+i)]at hc;rcases fP (off+i) 2 with hl|hl
  ·match hk:off+i,hl with
   |0,_=>rw[hk]at hc;cases hc
   |1,_=>rw[hk]at hc;cases hc
  ·rw[Array.getElem?_eq_none (by simpa using hl)]at hc;cases hc
 ·rw[World.cell?_of_block (heap_setCell_other W ⟨T,j,none⟩ b v hb)];exact hc
theorem AK.own{hs:Nat}{a:Option cO}{nf ca:Nat}{X Y:ByteArray}{W W':aF}{row:Option Nat}(h:AK hs a nf ca X Y W)(hg:W.grownBy W' row)(hr:∀r,row=some r→∃o:Obj,W.heap[r]? =some o∧o.isCells=false):AK hs a nf ca X Y W':=
 ⟨h.1.own hg hr,h.2.1.own hg hr,h.2.2.1.own hg hr,h.2.2.2.1.own hg hr,h.2.2.2.2.own hg hr⟩
theorem M3:∀(ps:List Pt)(i:Nat)(t:List UInt8),i<ps.length→(cQ ps).set (i*3+2) (aA (bs t))=cQ (ps.set i {ps.getD i default with en:=t})
 |[],i,t,h=>by simp at h
 |q::qs,0,t,_=>rfl
 |q::qs,i+1,t,h=>by
  have ih:=M3 qs i t (by simpa using h)
  have e:cQ (q::qs)=aC aB q.side::aA (bs q.fr)::aA (bs q.en)::cQ qs:=rfl
  rw[show(i+1)*3+2=(i*3+2)+1+1+1 by omega,e]
  simp only[aW,nR]
  rw[ih];rfl
theorem M4:∀(ps:List Pt)(i:Nat)(t:List UInt8),i<ps.length→(cQ ps).set (i*3+1) (aA (bs t))=cQ (ps.set i {ps.getD i default with fr:=t})
 |[],i,t,h=>by simp at h
 |q::qs,0,t,_=>rfl
 |q::qs,i+1,t,h=>by
  have ih:=M4 qs i t (by simpa using h)
  have e:cQ (q::qs)=aC aB q.side::aA (bs q.fr)::aA (bs q.en)::cQ qs:=rfl
  rw[show(i+1)*3+1=(i*3+1)+1+1+1 by omega,e]
  simp only[aW,nR]
  rw[ih];rfl
theorem Px{fs:List Fr}{at':List (List UInt8)}{ps:List Pt}(h2:2≤ps.length)(i:Nat)(hi:i≤ps.length)(k:Nat)(hk:k<ps.length):((E9 fs at' ps i).getD k default).side=(ps.getD k default).side:=by rw[Qz h2 i hi k hk]
theorem U7{fs:List Fr}{at':List (List UInt8)}{ps:List Pt}{i q:Nat}(h2:2≤ps.length)(hi:i<ps.length)(hq:(i+1)%ps.length=q)(hu:vU fs (ps.getD i default)≠vU fs (ps.getD q default)):
 ((cQ ps).set (i*3+2) (aA (bs (at'.getD (ps.getD q default).side.toNat [])))).set (q*3+1) (aA (bs (at'.getD (ps.getD i default).side.toNat [])))=cQ (Es fs at' ps i):=by
 have hql:q<ps.length:=by rw[←hq];exact dB _ (by omega)
 rw[M3 _ _ _ hi,M4 _ _ _ (by simpa using hql)];unfold Es;rw[hq,iN hu]
theorem Yk{fs:List Fr}{at':List (List UInt8)}{ps:List Pt}{i q:Nat}(hq:(i+1)%ps.length=q)(hu:vU fs (ps.getD i default)=vU fs (ps.getD q default)):Es fs at' ps i=ps:=by
 unfold Es;rw[hq,ip hu]
theorem keepDF{W:aF}{p:cO}{b:Bool}(h:W.frozen? p=b):W.drew.frozen? p=b:=h
theorem keepSF{W:aF}{p q:cO}{b:Bool}{v:aP}(h:W.frozen? p=b):(W.setCell q v).frozen? p=b:=by rw[World.frozen?_setCell];exact h
theorem keepDL{W:aF}{g:Nat}(h:g<W.heap.size):g<W.drew.heap.size:=h
theorem keepSL{W:aF}{g:Nat}{q:cO}{v:aP}(h:g<W.heap.size):g<(W.setCell q v).heap.size:=by rw[World.size_setCell];exact h
theorem keepS{W:aF}{p q:cO}{v u:aP}(iC:p≠q)(h:W.cell? p=some v):(W.setCell q u).cell? p=some v:=(World.cell?_setCell_other _ _ _ _ (Ne.symm iC)).trans h
theorem vT.up{w:aF}{b off:Nat}{fs:List Fr}{s:Nat}(h:vT w (some ⟨b,off,none⟩) fs)(hs:s<fs.length):w.cell? ⟨b,off+s*5,none⟩=some (aV (fs.getD s default).up):=by
 obtain⟨b',o',e,c,-⟩:=h.at hs rfl;injection e with e;injection e with e1 e2;subst e1 e2;exact c
theorem yJ.get{w:aF}{b off:Nat}{xs:List (List UInt8)}{s:Nat}(h:yJ w (some ⟨b,off,none⟩) xs)(hs:s<xs.length):w.cell? ⟨b,off+s,none⟩=some (aA (bs (xs.getD s []))):=by
 obtain⟨b',o',e,c⟩:=h s hs;injection e with e;injection e with e1 e2;subst e1 e2;exact c
structure MoveF(a b:Option cO)(nf n ca cb:Nat)(fs:List Fr)(ls:List Lp)(x y:List UInt8)(w:aF):Prop where
 tracer1:∀W g,Below w.heap.size w W→bT W g #[aA (bs y)] 34→bE aE 32 #[aD a nf ca,aD b n cb,aD (some ⟨g,0,none⟩) 1 1] W fun e w'=>(∃a3 c3,e=bA (cK #[cF #[aD a nf ca,aD a3 nf c3],aC aB 0])∧yJ w' a3 (fR fs y))∧Below W.heap.size W w'
 rf:∀W,Below w.heap.size w W→vT W a fs
 rl:∀W,Below w.heap.size w W→E5 W b ls
 flen:fs.length=nf
 len:ls.length=n
 alen:(fR fs y).length=nf
 nn:n≤24
 size:∀i,i<n→4≤(ls.getD i default).ps.length∧(ls.getD i default).ps.length≤96
 side:∀i,i<n→∀j,j<(ls.getD i default).ps.length→∃s:Nat,((ls.getD i default).ps.getD j default).side=s∧s<nf
theorem Yl (a b : Option cO) (nf n ca cb : Nat) (fs : List Fr) (ls : List Lp) (x y : List UInt8) (w : aF) (H : MoveC a b nf n ca cb fs ls x y w) (He : MoveE a nf ca fs x y w) (Hf : MoveF a b nf n ca cb fs ls x y w) (Hh : MoveH a nf n ca fs (kH fs (fR fs y) ls) w) (hx : Sm x) (hy : Sm y) :
 bE aE 17 #[aD a nf ca, aD b n cb, aA (bs x), aA (bs y)] w (Kk w (tP fs ls x y) (pO fs ls x y)) := by
 have RX : bK (∀ c, pO fs ls x y = c → c ≠ 0 → ∀ W, Below w.heap.size w W → Kk w (tP fs ls x y) (pO fs ls x y) (bA (cK #[aD none 0 0, aC aB c])) W) := fun c hc qg W hB =>
  ⟨⟨none, 0, [], by rw [MI (by rw [hc]; exact qg), hc]; rfl, by rw [MI (by rw [hc]; exact qg)]; rfl, fun i hi => absurd hi (by simp)⟩, hB⟩
 have HX2 : bK ((0 < (fH x y).1) → ∀ W, Below w.heap.size w W → Kk w (tP fs ls x y) (pO fs ls x y) (bA (cK #[aD none 0 0, aC aB 2])) W) := fun k => RX.out 2 (ip (.inl ((U4 hx hy).1 k))) (by decide)
 have HX3 : bK (evB fs x y → ∀ W, Below w.heap.size w W → Kk w (tP fs ls x y) (pO fs ls x y) (bA (cK #[aD none 0 0, aC aB 2])) W) := fun k => RX.out 2 (ip (.inr k)) (by decide)
 have HX5 : bK (¬ (0 < (fH x y).1) → ¬ evB fs x y → pO fs ls x y = if ((kH fs (fR fs y) ls).flatten.any (Eu fs)) = true then 2 else 0) := fun k n => iN fun h => h.elim (fun q => k ((U4 hx hy).2 q)) n
 have OM : bK (pO fs ls x y = 0 → tP fs ls x y = kH fs (fR fs y) ls) := jc
 have HRX := RX
 have HMc := zq Hh
 obtain ⟨W0, eY, Ev, fE⟩ := AK.new a nf ca (bs x) (bs y) w
 have HC := zq (H.tracer2 (W0.alloc (aN #[aA (bs x), aA (bs y)] 34)) W0.heap.size (fE.alloc fE.size _) (bT.new W0 _ _))
 have IN := zq H.all
 have HCmp := zq H.cmp
 have HSeq := zq He.seq
 have WU := zq He.lo
 have HHi := zq He.hi
 have JL := zq (Ev.alloc (aN #[aA (bs x), aA (bs y)] 34))
 have fV := zq (fE.alloc fE.size (aN #[aA (bs x), aA (bs y)] 34))
 have Bx := zq Ev
 have Tu := zq Hf.tracer1
 have HRf := zq Hf.rf
 have HRl := zq Hf.rl
 have U8 := zq Hf.flen
 have HLl := zq Hf.len
 have HAl := zq Hf.alen
 have HNn := zq Hf.nn
 have HSz := zq Hf.size
 have Z5 := zq Hf.side
 clear H He Hf Hh RX Ev fE
 unfold dr at HC
 have e0 : [x, y].getD 0 [] = x := rfl
 rw [e0] at HC
 clear e0
 generalize tP fs ls x y = PV at *
 generalize pO fs ls x y = PE at *
 have Hcmp : bK ((0 : Int) < (fH x y).1 ↔ (0 : Int) < (fH x y).1) := Iff.rfl
 generalize (fH x y).1 = cq at *
 have Hat : bK (fR fs x = fR fs x) := rfl
 generalize fR fs x = ax at *
 obtain ⟨Jk, hty⟩ : ∃ t, fR fs y = t := ⟨_, rfl⟩
 rw [hty] at Tu HAl HX5 OM HMc
 have Hty := zq hty
 clear hty
 clear Hcmp Hat hx hy
 generalize hX : bs x = X at *
 generalize hY : bs y = Y at *
 refine dM func17 rfl ?_
 simp only [ntmps17, cD, bD, bV, dQ, dR, cA, cB, cR, cH, dF, cJ]
 go_upto_region 1 with (fail)
 try rw [eY]
 have b4 := Bx.out.1.cell 0
 have b6 := Bx.out.2.1.cell 0
 have b7 := Bx.out.2.2.1.cell 0
 have l4 := Bx.out.1.lt
 have l6 := Bx.out.2.1.lt
 have l7 := Bx.out.2.2.1.lt
 simp only [aJ, aI] at b4 b6 b7
 clear eY
 go_wp2_with fail
 refine HC.out.mono ?_
 rintro e W1 ⟨⟨a2, n2, c2, rfl, hk⟩, hb1⟩
 obtain ⟨e4, hr⟩ := hk (by first | exact trivial | simp)
 have e4 := e4.symm; subst e4
 have eC := zq (aQ fV.out hb1)
 have lz := zq (JL.out.below hb1)
 have Hra := zq hr
 clear hb1 b4 b6 b7 l4 l6 l7 hr hk HC JL fV Bx
 go_upto_region 2 with (fail)
 obtain ⟨W2, Re⟩ : ∃ V, W1.alloc (aN #[aD a nf ca, aD a2 nf c2] 64) = V := ⟨_, rfl⟩
 have HT : bK (bT W2 W1.heap.size #[aD a nf ca, aD a2 nf c2] 64) := by rw [← Re]; exact bT.new _ _ _
 have ma : bK (AK w.heap.size a nf ca X Y W2) := by rw [← Re]; exact lz.out.alloc _
 have eT : bK (Below w.heap.size w W2) := by rw [← Re]; exact eC.out.alloc eC.out.size _
 have HT1 : bK (w.heap.size + 1 + 1 + 1 + 1 < W1.heap.size) := lz.out.2.2.2.2.lt
 have U9 : bK (yJ W2 a2 ax) := by rw [← Re]; exact Hra.out.below ((aL _ _).alloc (aH _) _)
 rw [Re]
 have HA := zq (IN.out a2 c2 W2 eT.out U9.out)
 clear Re eC lz Hra IN U9
 generalize W1.heap.size = T at *
 obtain ⟨k0, k1, z0, z1, lT⟩ := HT.out.two
 go_wp2_with fail
 refine HA.out.mono ?_
 rintro e W3 ⟨rfl, hb3⟩
 have HB3 := zq (aQ eT.out hb3)
 have Va := zq (ma.out.below hb3)
 have HT3 := zq (HT.out.below hb3 HT.out.lt)
 clear hb3 k0 k1 z0 z1 lT eT ma HT HA
 have HY2 := HX2
 have HY3 := HX3
 have HY5 := HX5
 have HMh := HMc.out
 have HSz2 := HSz
 have HSd2 := Z5
 clear HX2 HX3 HX5 HMc HSz Z5
 have b6 := Va.out.2.1.cell 0
 have b7 := Va.out.2.2.1.cell 0
 simp only [aJ, aI] at b6 b7
 go_wp2_with fail
 refine (HCmp.out _ HB3.out).mono ?_
 rintro e W4 ⟨rfl, hb4⟩
 have rT := zq (aQ HB3.out hb4)
 have AL := zq (Va.out.below hb4)
 have HT4 := zq (HT3.out.below hb4 HT3.out.lt)
 clear hb4 b6 b7 HB3 Va HT3
 by_cases hc : 0 < cq
 ·have HX := zq (HY2.out hc)
  clear HY2 HY3 HCmp HT4 HT1
  have r8 := AL.out.2.2.2.1.cell 0
  have r9 := AL.out.2.2.2.2.cell 0
  have z8 := AL.out.2.2.2.1.fz 0
  have z9 := AL.out.2.2.2.2.fz 0
  have l8 := AL.out.2.2.2.1.lt
  have l9 := AL.out.2.2.2.2.lt
  simp only [aJ, aI] at r8 r9
  go_wp2
  obtain ⟨V, hV, b1, b2, rU⟩ := AL.out.err (aD none 0 0) 2
  rw [hV]
  exact lu (mE Ec _ _ (w.heap.size + 1 + 1 + 1) (w.heap.size + 1 + 1 + 1 + 1) (aD none 0 0) (aC aB 2) rfl rfl (b1.cell 0) (b2.cell 0) Jw yC) rfl (HX.out _ (rU _ rT.out))
 ·have HZ5 := zq (HY5.out (by omega))
  clear HY5
  have b4 := AL.out.1.cell 0
  simp only [aJ, aI] at b4
  go_wp2_with fail
  refine (ll a nf ca W4).mono ?_
  rintro e W5 ⟨rfl, hW5⟩
  have HBe : bK (bT W5 W4.heap.size #[aD a nf ca] 27) := by rw [hW5]; exact bT.new _ _ _
  have hb5 : Below W4.heap.size W4 W5 := by rw [hW5]; exact (aL _ _).alloc (aH _) _
  have xX := zq (aQ rT.out hb5)
  have Kx := zq (AL.out.below hb5)
  have HT5 := zq (HT4.out.below hb5 HT4.out.lt)
  clear hW5 hb5 rT AL HT4 b4
  generalize W4.heap.size = Be at *
  clear HY2
  go_wp2_with fail
  have HNo0 : bK (∀ z ∈ ([] : List Rat), ¬ (cT x < z ∧ z < cT y)) := fun z h => absurd h (by simp)
  refine LZ (gf := 118) (lb := #[aY (some ⟨Be, 0, none⟩)]) rfl (mB func118 (by kernel_rfl) rfl) (HSeq.out W5 Be xX.out HBe.out) iW.trans (iW.putObj xX.out.size) (fun _ => rfl)
   (fun k W => ((AK w.heap.size a nf ca X Y W ∧ bT W T #[aD a nf ca, aD a2 nf c2] 64) ∧ bK (∀ z ∈ k, ¬ (cT x < z ∧ z < cT y))) ∧ Below w.heap.size w W)
   (fun c k W => ((bT W (w.heap.size + 1 + 1 + 1) #[aD none 0 0] 31 ∧ bT W (w.heap.size + 1 + 1 + 1 + 1) #[aC aB 2] 28) ∧ c = .ret ∧ evB fs x y) ∧ Below w.heap.size w W)
   (eO (Own.from (fun s A B row hs hg hr => ⟨⟨hs.1.1.own hg hr, hs.1.2.own hg hr⟩, hs.2⟩) _) (yY (aH _) xX.out.size))
   (fun c => eO (Own.from (fun s A B row hs hg hr => ⟨⟨hs.1.1.own hg hr, hs.1.2.own hg hr⟩, hs.2⟩) _) (yY (aH _) xX.out.size))
   ⟨⟨⟨Kx.out, HT5.out⟩, HNo0⟩, xX.out⟩
   ?frm ?assign ?body ?done ?stop
  case assign =>
   intro l z W K hK
   gi_wp2
   exact hK
  case body =>
   rintro l k z W ⟨hz, hzv⟩ ⟨⟨⟨Ev, hT⟩, hNo⟩, hB⟩
   have HL := zq (WU.out z hz W hB)
   have HH := zq (HHi.out z hz)
   have HzE := zq hzv
   have JL := zq Ev
   have HT := zq hT
   have HB := zq hB
   have HNo := zq hNo.out
   have b6 := Ev.2.1.cell 0
   simp only [aJ, aI] at b6
   clear hz hzv Ev hT hNo hB HBe xX Kx HT5 HNo0 HSeq WU HHi HCmp
   generalize bs (bG z) = Z at *
   gi_wp2_with fail
   refine ⟨trivial, (Calls.round HL.out _ _).mono ?_⟩
   rintro e W6 ⟨⟨c1, rfl, hc1⟩, hb6⟩
   have zV := zq (aQ HB.out hb6)
   have VZ := zq hb6
   have HBx6 := zq (JL.out.below hb6)
   have HT6 := zq (HT.out.below hb6 HT.out.lt)
   have HC1 := zq hc1
   clear hb6 hc1 b6 JL HT
   by_cases h1 : c1 < 0
   ·have b7 := HBx6.out.2.2.1.cell 0
    simp only [aJ, aI] at b7
    have HCz := zq (HC1.out.1 h1)
    gi_wp2_with fail
    refine ⟨trivial, (Calls.round (HH.out _ zV.out) _ _).mono ?_⟩
    rintro e W7 ⟨⟨c2, rfl, hc2⟩, hb7⟩
    have Ig := zq (aQ zV.out hb7)
    have HA7 := zq (aQ VZ.out hb7)
    have Vb := zq (HBx6.out.below hb7)
    have HT7 := zq (HT6.out.below hb7 HT6.out.lt)
    have L5 := zq hc2
    clear hb7 hc2 b7 HBx6 HT6 zV VZ
    by_cases h2 : c2 < 0
    ·have HEv : bK (evB fs x y) := ⟨z, HzE.out, HCz.out, L5.out.1 h2⟩
     have r8 := Vb.out.2.2.2.1.cell 0
     have r9 := Vb.out.2.2.2.2.cell 0
     have z8 := Vb.out.2.2.2.1.fz 0
     have z9 := Vb.out.2.2.2.2.fz 0
     have l8 := Vb.out.2.2.2.1.lt
     have l9 := Vb.out.2.2.2.2.lt
     simp only [aJ, aI] at r8 r9
     gi_wp2
     have hK : KeepsFrom W5.heap.size W ((W7.setCell ⟨w.heap.size + 1 + 1 + 1, 0, none⟩ (aD none 0 0)).setCell ⟨w.heap.size + 1 + 1 + 1 + 1, 0, none⟩ (aC aB 2)) := (((fQ HA7.out).trans (dG _ _ _)).trans (dG _ _ _)).from _
     obtain ⟨V, hV, b1, b2, rU⟩ := Vb.out.err (aD none 0 0) 2
     rw [hV] at hK ⊢
     exact ⟨hK, ⟨⟨b1, b2⟩, rfl, HEv.out⟩, rU _ Ig.out⟩
    ·have OU := zq (U6 HNo.out (fun h => h2 (L5.out.2 h.2)))
     gi_wp2
     exact ⟨(fQ HA7.out).from _, iW.call HA7.out HB.out.size, ⟨⟨Vb.out, HT7.out⟩, OU⟩, Ig.out⟩
   ·have OU := zq (U6 HNo.out (fun h => h1 (HC1.out.2 h.1)))
    gi_wp2
    refine ⟨trivial, ?_⟩
    gi_wp2
    exact ⟨(fQ VZ.out).from _, iW.call VZ.out HB.out.size, ⟨⟨HBx6.out, HT6.out⟩, OU⟩, zV.out⟩
  case done =>
   rintro D W hD ⟨k, hF, ⟨⟨Ev, hT⟩, hNo⟩, hB⟩ hK
   have JL := zq Ev
   have HT := zq hT
   have HB := zq hB
   have HK := zq hK
   have HD := zq (aU xX.out.size hD)
   have HDl := zq ((Array.getElem?_eq_some_iff.1 hK).1)
   have HNE : bK (¬ evB fs x y) := fun ⟨z, h1, h2⟩ => hNo.out z (hF z h1) h2
   have HU5 := zq (HZ5.out HNE.out)
   have b4 := Ev.1.cell 0
   have b7 := Ev.2.2.1.cell 0
   simp only [aJ, aI] at b4 b7
   clear Ev hT hB hK hD hF hNo HBe xX Kx HT5 HNo0 HSeq WU HHi HCmp HY3 HZ5
   go_wp2_with fail
   refine (Tu.out _ W.heap.size (HB.out.alloc HB.out.size _) (bT.new W _ _)).mono ?_
   rintro e V1 ⟨⟨a3, c3, rfl, hra⟩, hb1⟩
   have Sh : Below W.heap.size W V1 := ((aL _ W).alloc (aH _) _).trans (hb1.mono (by simp))
   have eC := zq (aQ HB.out Sh)
   have lz := zq (JL.out.below Sh)
   have HT1' := zq (HT.out.below Sh HT.out.lt)
   have HK1 := zq ((Sh.block D HDl.out).trans HK.out)
   have HDl1 : bK (D < V1.heap.size) := by have h1 := HDl.out; have h2 := Sh.size; show _ < _; omega
   have Hra := zq hra
   clear hb1 hra Sh b4 b7 HB JL HT HK Tu HDl
   obtain ⟨k0, k1, z0, z1, lT⟩ := HT1'.out.two
   go_upto_region 13 with (fail)
   obtain ⟨V2, Uf⟩ : ∃ V, (V1.setCell ⟨T, 0, none⟩ (aD a nf ca)).setCell ⟨T, 1, none⟩ (aD a3 nf c3) = V := ⟨_, rfl⟩
   have Sk : bK (bT V2 T #[aD a nf ca, aD a3 nf c3] 64) := by rw [← Uf]; exact (HT1'.out.set 0 _).set 1 _
   have ma : bK (AK w.heap.size a nf ca X Y V2) := by rw [← Uf]; exact (lz.out.other _ HT1.out).other _ HT1.out
   have hTl : w.heap.size ≤ T := by have := HT1.out; omega
   have HDl2 : bK (D < V2.heap.size) := by rw [← Uf]; show _ < _; simpa using HDl1.out
   have eT : bK (Below w.heap.size w V2) := by rw [← Uf]; exact (eC.out.setCell (p := ⟨T, 0, none⟩) hTl _).setCell (p := ⟨T, 1, none⟩) hTl _
   have Kj : bK (V2.heap[D]? = some (.deferred (some []))) := by rw [← Uf]; exact ((dG _ _ _).trans (dG _ _ _)).same D _ HK1.out rfl
   have U9 : bK (yJ V2 a3 Jk) := by rw [← Uf]; exact Pw (Pw Hra.out HT1'.out 0 _) (HT1'.out.set 0 _) 1 _
   rw [Uf]
   clear Uf eC lz HT1' HK1 HDl1 Hra k0 k1 z0 z1 lT hTl
   go_wp2
   go_loopw [13, 65] (fun v i wr => ∃ (k vc : Nat) (va : Option cO) (IU : List Lp), v = aD va k vc ∧ (k = 0 → va = none ∧ vc = 0) ∧ i = aC aB (k : Int) ∧ k ≤ n ∧ bK (gJ V2.heap.size wr v IU) ∧ bK (IU.map Lp.ps = (kH fs Jk ls).take k) ∧ bK (Below V2.heap.size V2 wr)) (fun _ i _ => n - (aK i).toNat)
   case atStart => exact ⟨0, 0, none, [], rfl, fun _ => ⟨rfl, rfl⟩, rfl, bM _, ⟨⟨rfl, .inl ⟨rfl, rfl⟩⟩, fun l h => absurd h (by simp)⟩, rfl, aL _ _⟩
   case round =>
    rename aF => wo
    obtain ⟨k, vc, va, IU, rfl, hva, rfl, hk, HO, HP, Wa⟩ := hrel
    have Hva := zq hva
    clear hva
    have vL := zq (eT.out.trans (Wa.out.mono eT.out.size))
    by_cases hlt : k < n
    ·obtain ⟨lb, lo, rfl, c0, nL⟩ := (HRl.out _ vL.out).at (i := k) (by rw [HLl.out]; exact hlt) rfl
     have HSzk := zq (HSz2.out k hlt)
     have HSdk := zq (HSd2.out k hlt)
     have Hmv : bK ((kH fs Jk ls).take (k + 1) = (kH fs Jk ls).take k ++ [xG fs Jk (ls.getD k default).ps]) := by
      show _ = _
      have hl : k < (kH fs Jk ls).length := by rw [By, HLl.out]; exact hlt
      rw [cN hl, ← Pf (by rw [HLl.out]; exact hlt)]
      simp [aG, hl]
     generalize ls.getD k default = l at *
     obtain ⟨lpb, lpo, hla, -⟩ := nL 0 (by have := HSzk.out.1; omega)
     have HCl := zq (UB lpb lpo l.ps.length l.cap l.ps wo rfl (by have := HSzk.out.2; omega) (by rw [← hla]; exact nL))
     obtain ⟨m, hm⟩ : ∃ m, l.ps.length = m := ⟨_, rfl⟩
     have hm4 : 4 ≤ m ∧ m ≤ 96 := by rw [← hm]; exact HSzk.out
     rw [hla] at c0
     rw [hm] at c0 HCl
     have Hm := zq hm
     have HSdm : bK (∀ j, j < m → ∃ s : Nat, (l.ps.getD j default).side = s ∧ s < nf) := by show ∀ j, j < m → _; rw [← hm]; exact HSdk.out
     clear nL HSzk HSdk hm hla
     generalize l.cap = lc at *
     generalize l.ps = ps at *
     go_wp2_with fail
     refine HCl.out.mono ?_
     rintro e V3 ⟨⟨g, cap, rfl, dI⟩, hb3⟩
     have Xq := zq dI
     have HB3 := zq hb3
     clear dI hb3 HCl c0
     have HPL : bK (ps.length = m) := Hm
     go_wp2
     go_loopw [73] (fun i w2 => ∃ j : Nat, i = aC aB (j : Int) ∧ j ≤ m ∧ bK (w2.ownsRow wo.heap.size 68 3 (aD (some ⟨g, 0, none⟩) m cap) m (cQ (E9 fs Jk ps j))) ∧ bK (Below wo.heap.size wo w2)) (fun i _ => m - (aK i).toNat)
     case atStart => exact ⟨0, rfl, bM _, Xq, HB3⟩
     case round =>
      clear Xq HB3
      obtain ⟨j, rfl, hj, mb, Bl⟩ := hrel
      by_cases hjm : j < m
      ·rename aF => wi
       have HBv := zq (Wa.out.trans (Bl.out.mono Wa.out.size))
       have HBwi := zq (eT.out.trans (HBv.out.mono eT.out.size))
       have qi : (j + 1) % m < m := dB _ (by omega)
       have ef := Dy j m
       obtain ⟨s1, tL, ht1⟩ := HSdm.out j hjm
       obtain ⟨s2, JH, ht2⟩ := HSdm.out ((j + 1) % m) qi
       have h2 : 2 ≤ ps.length := by rw [HPL.out]; omega
       have hML := CL fs Jk ps j
       rw [HPL.out] at hML
       have hS1 := Px (fs := fs) (at' := Jk) h2 j (by rw [HPL.out]; omega) j (by rw [HPL.out]; exact hjm)
       have uP := Px (fs := fs) (at' := Jk) h2 j (by rw [HPL.out]; omega) ((j + 1) % m) (by rw [HPL.out]; exact qi)
       rw [tL] at hS1
       rw [JH] at uP
       obtain ⟨M', hM'⟩ : ∃ t, E9 fs Jk ps (j + 1) = t := ⟨_, rfl⟩
       have HMe := zq hM'
       have HSt : bK (M' = Es fs Jk (E9 fs Jk ps j) j) := by rw [← hM']; rfl
       clear hM'
       generalize E9 fs Jk ps j = M at *
       have XX : bK (vU fs (M.getD j default) ≠ vU fs (M.getD ((j + 1) % m) default) → ((cQ M).set (j * 3 + 2) (aA (bs (Jk.getD s2 [])))).set ((j + 1) % m * 3 + 1) (aA (bs (Jk.getD s1 []))) = cQ M') := fun hu => by
        have := U7 (at' := Jk) (i := j) (by rw [hML]; omega) (by rw [hML]; exact hjm) (by rw [hML]) hu
        rw [hS1, uP] at this
        rw [HSt.out]; exact this
       have HCe : bK (vU fs (M.getD j default) = vU fs (M.getD ((j + 1) % m) default) → M' = M) := fun hu => by
        rw [HSt.out]; exact Yk (by rw [hML]) hu
       have hu1 : vU fs (M.getD j default) = (fs.getD s1 default).up := by unfold vU; rw [hS1]; rfl
       have hu2 : vU fs (M.getD ((j + 1) % m) default) = (fs.getD s2 default).up := by unfold vU; rw [uP]; rfl
       rw [hu1, hu2] at XX HCe
       obtain ⟨d0, d1, d2⟩ := qK M j (by rw [hML]; exact hjm)
       obtain ⟨e0, e1, e2⟩ := qK M ((j + 1) % m) (by rw [hML]; exact qi)
       rw [hS1] at d0
       rw [uP] at e0
       clear hu1 hu2 tL JH hS1 uP HSt
       generalize (j + 1) % m = q at *
       have r0 : wi.cell? ⟨g, j * 3, none⟩ = some (aC aB s1) := (mb.out.cellAt (j * 3) (by omega)).trans d0
       have r1 : wi.cell? ⟨g, q * 3, none⟩ = some (aC aB s2) := (mb.out.cellAt (q * 3) (by omega)).trans e0
       obtain ⟨ab, ao, rfl⟩ : ∃ ab ao, a = some ⟨ab, ao, none⟩ := by
        obtain ⟨x, y, e, -⟩ := (HRf.out _ HBwi.out) s1 (by rw [U8.out]; exact ht1); exact ⟨x, y, e⟩
       obtain ⟨nb, no, rfl⟩ : ∃ nb no, a3 = some ⟨nb, no, none⟩ := by
        obtain ⟨x, y, e, -⟩ := U9.out s1 (by rw [HAl.out]; exact ht1); exact ⟨x, y, e⟩
       have U1 := vT.up (HRf.out _ HBwi.out) (s := s1) (by rw [U8.out]; exact ht1)
       have U2 := vT.up (HRf.out _ HBwi.out) (s := s2) (by rw [U8.out]; exact ht2)
       have A1 := yJ.get (U9.out.below HBv.out) (s := s1) (by rw [HAl.out]; exact ht1)
       have A2 := yJ.get (U9.out.below HBv.out) (s := s2) (by rw [HAl.out]; exact ht2)
       have b4 := (ma.out.below HBv.out).1.cell 0
       obtain ⟨k0, k1, -, -, lT⟩ := (Sk.out.below HBv.out Sk.out.lt).two
       simp only [aJ, aI] at b4
       generalize (fs.getD s1 default).up = u1 at *
       generalize (fs.getD s2 default).up = u2 at *
       generalize bs (Jk.getD s1 []) = P1 at *
       generalize bs (Jk.getD s2 []) = P2 at *
       have jm : (j : Int) < (m : Int) := by omega
       have qm : (q : Int) < (m : Int) := by omega
       have n1 : (s1 : Int) < (nf : Int) := by omega
       have n2 : (s2 : Int) < (nf : Int) := by omega
       have p0 : (0 : Int) ≤ (j : Int) := by omega
       have q0 : (0 : Int) ≤ (q : Int) := by omega
       have w1 : IntKind.i64.wrap ((j : Int) + 1) = (j : Int) + 1 := bI _ (by omega)
       have hm0 : ¬ m = 0 := by omega
       clear d0 d1 e0 e2
       go_upto_region 22 with (fail)
       go_cut [19, 20] from 81 to 86 (fun v u W => v = aY (some ⟨g, j * 3, none⟩) ∧ u = aY (some ⟨g, q * 3, none⟩) ∧ ∃ nd, W = wi.drewN nd)
       case first =>
        go_quiet (fail)
        go_wp2
        go_meet
        case rel => exact ⟨rfl, rfl, _, rfl⟩
       case rest =>
       obtain ⟨rfl, rfl, dq, rfl⟩ := hcut
       go_upto_region 23 with (fail)
       go_cut [103] from 87 to 103 (fun v W => v = aV (!(u1 == u2)) ∧ ∃ nd, W = (wi.drewN dq).drewN nd)
       case first =>
        go_quiet (fail)
        go_wp2
        go_meet
        case rel => exact ⟨rfl, _, rfl⟩
       case rest =>
       obtain ⟨rfl, dq2, rfl⟩ := hcut
       go_upto_if 103 with (fail)
       obtain ⟨wd, Z6⟩ : ∃ V, (wi.drewN dq).drewN dq2 = V := ⟨_, rfl⟩
       have R0 : wd.cell? ⟨g, j * 3, none⟩ = some (aC aB s1) := by rw [← Z6]; exact r0
       have R1 : wd.cell? ⟨g, q * 3, none⟩ = some (aC aB s2) := by rw [← Z6]; exact r1
       have B1 : wd.cell? ⟨nb, no + s1, none⟩ = some (aA P1) := by rw [← Z6]; exact A1
       have B2 : wd.cell? ⟨nb, no + s2, none⟩ = some (aA P2) := by rw [← Z6]; exact A2
       have K1 : wd.cell? ⟨T, 1, none⟩ = some (aD (some ⟨nb, no, none⟩) nf c3) := by rw [← Z6]; exact k1
       have HRwd : bK (wd.ownsRow wo.heap.size 68 3 (aD (some ⟨g, 0, none⟩) m cap) m (cQ M)) := by rw [← Z6]; exact mb.out
       have hgo : wo.heap.size ≤ g := (kU mb.out).1
       have lg : g < wd.heap.size := by rw [← Z6]; exact (kU mb.out).2.1
       have hVo : V2.heap.size ≤ wo.heap.size := Wa.out.size
       have hTV : T < V2.heap.size := Sk.out.lt
       have hnV : nb < V2.heap.size := bB V2 ⟨nb, no + s1, none⟩ (yJ.get U9.out (s := s1) (by rw [HAl.out]; exact ht1))
       have f1 : wd.frozen? ⟨g, j * 3 + 2, none⟩ = false := by rw [← Z6]; exact mb.out.frozenAt _
       have f2 : wd.frozen? ⟨g, q * 3 + 1, none⟩ = false := by rw [← Z6]; exact mb.out.frozenAt _
       have F1 : wd.cell? ⟨g, j * 3 + 2, none⟩ = some (aA (bs (M.getD j default).en)) := by rw [← Z6]; exact (mb.out.cellAt (j * 3 + 2) (by omega)).trans d2
       have F2 : wd.cell? ⟨g, q * 3 + 1, none⟩ = some (aA (bs (M.getD q default).fr)) := by rw [← Z6]; exact (mb.out.cellAt (q * 3 + 1) (by omega)).trans e1
       have gu : bK (Below wo.heap.size wo wd) := by rw [← Z6]; exact eF (eF Bl.out _) _
       rw [Z6]
       have Hgo := zq hgo
       have g1 : ¬ nb = g := by omega
       have g2 : ¬ g = nb := by omega
       have g3 : ¬ T = g := by omega
       have g4 : ¬ g = T := by omega
       have g5 : ¬ j * 3 = q * 3 + 1 := by omega
       have g6 : ¬ q * 3 = j * 3 + 2 := by omega
       have g7 : ¬ j * 3 + 2 = q * 3 + 1 := by omega
       have g8 : ¬ q * 3 + 1 = j * 3 + 2 := by omega
       generalize bs (M.getD j default).en = EE at *
       generalize bs (M.getD q default).fr = FF at *
       clear Z6 r0 r1 A1 A2 k0 k1 lT U1 U2 b4 HBv HBwi ef d2 e1 hVo hTV hnV hgo
       by_cases hu : u1 = u2
       ·have hM := HCe.out hu
        have HRw2 : bK (wd.ownsRow wo.heap.size 68 3 (aD (some ⟨g, 0, none⟩) m cap) m (cQ M')) := by rw [hM]; exact HRwd.out
        clear XX HCe hM mb HRwd
        cases u1 <;> cases u2 <;> (try (exact absurd hu (by decide))) <;> clear hu
        all_goals
         go_wp2
         go_roundw
         case rel => exact ⟨j + 1, by go_num, by omega, by rw [HMe.out]; exact HRw2.out, gu.out⟩
         case measure => simp only [aK]; omega
       ·have HC := zq (XX.out hu)
        cases u1 <;> cases u2 <;> (try (exact absurd rfl hu)) <;> clear hu
        all_goals
         go_wp2
         go_region_held3 (fun w' => w'.cell? ⟨g, j * 3, none⟩ = some (aC aB s1) ∧ w'.cell? ⟨g, q * 3, none⟩ = some (aC aB s2) ∧ w'.cell? ⟨nb, no + s1, none⟩ = some (aA P1) ∧ w'.cell? ⟨nb, no + s2, none⟩ = some (aA P2) ∧ w'.cell? ⟨T, 1, none⟩ = some (aD (some ⟨nb, no, none⟩) nf c3) ∧ w'.frozen? ⟨g, j * 3 + 2, none⟩ = false ∧ w'.frozen? ⟨g, q * 3 + 1, none⟩ = false ∧ g < w'.heap.size) ((refine ⟨?_, ?_, ?_, ?_, ?_, ?_, ?_, ?_⟩) <;> (repeat (first | assumption | refine keepS (by intro e; injection e with e1 e2; omega) ?_ | refine keepD ?_ | refine keepDF ?_ | refine keepSF ?_ | refine keepDL ?_ | refine keepSL ?_))) (fail)
         all_goals
          have HRn : bK ((((wd.setCell ⟨g, j * 3 + 2, none⟩ (aA P2)).setCell ⟨g, q * 3 + 1, none⟩ (aA P1)).drew).ownsRow wo.heap.size 68 3 (aD (some ⟨g, 0, none⟩) m cap) m (cQ M')) := by
           have := ((HRwd.out.stored (j * 3 + 2) (aA P2)).1.stored (q * 3 + 1) (aA P1)).1
           rw [HC.out] at this
           exact this
          have HBn : bK (Below wo.heap.size wo (((wd.setCell ⟨g, j * 3 + 2, none⟩ (aA P2)).setCell ⟨g, q * 3 + 1, none⟩ (aA P1)).drew)) :=
           ((gu.out.setCell (p := ⟨g, j * 3 + 2, none⟩) Hgo.out _).setCell (p := ⟨g, q * 3 + 1, none⟩) Hgo.out _).drew
          (try go_wp2)
          go_roundw
          case rel => exact ⟨j + 1, by go_num, by omega, by rw [HMe.out]; exact HRn.out, HBn.out⟩
          case measure => simp only [aK]; omega
      ·obtain rfl : m = j := by omega
       have hall : E9 fs Jk ps m = xG fs Jk ps := by rw [← HPL.out]; exact zj (by rw [HPL.out]; omega)
       rw [hall] at mb
       have rq : bK ((xG fs Jk ps).length = m) := by show _ = _; rw [E8]; exact HPL.out
       have Si := zq (aQ Wa.out Bl.out)
       have Nr := zq (HO.out.below Bl.out)
       have ez := zq (jO mb.out Wa.out.size)
       generalize xG fs Jk ps = ML at *
       have yi : IU.length = k := by
        have := congrArg List.length HP.out
        rw [aZ, List.length_take, By, HLl.out] at this
        omega
       have Hkk := zq yi
       have WU : bK ((IU ++ [(⟨some ⟨g, 0, none⟩, cap, ML⟩ : Lp)]).map Lp.ps = (kH fs Jk ls).take (k + 1)) := by
        show _ = _
        rw [eV, HP.out, Hmv.out]; rfl
       have oR := Nr.out.1
       rw [yi] at oR
       have hk24 : k + 1 ≤ 2147483648 := by have := HNn.out; omega
       clear mb Bl HO HP Hmv hall yi hm4 hj
       go_wp2_with (at_builtin; refine TS rfl _ _ rfl V2.heap.size (aD va k vc) k _ rfl oR (some ⟨g, 0, none⟩) m cap rfl hk24 Si.out.size ?_; intro g8 Tz w8 Gs hg8 LK)
       have HB8 := zq (dO Si.out LK oR (aH _) Si.out.size)
       have HO8 : bK (gJ V2.heap.size w8 (aD (some ⟨g8, 0, none⟩) (k + 1) Tz) (IU ++ [⟨some ⟨g, 0, none⟩, cap, ML⟩])) := by
        have := gJ.grow (l := ⟨some ⟨g, 0, none⟩, cap, ML⟩) (g := g8) (cap := Tz) Nr.out (by
         have := ez.out
         show RY _ _ _ _ (aD (some ⟨g, 0, none⟩) ML.length cap) ML.length (cQ ML)
         rw [rq.out]; exact this) LK (by
         rw [Hkk.out]
         show RY _ _ _ _ _ _ (_ ++ [aD (some ⟨g, 0, none⟩) ML.length cap])
         rw [rq.out]; exact Gs)
        rwa [Hkk.out] at this
       clear oR Gs LK Nr ez
       go_wp2
       go_roundw
       case rel => exact ⟨k + 1, Tz, some ⟨g8, 0, none⟩, IU ++ [(⟨some ⟨g, 0, none⟩, cap, ML⟩ : Lp)], rfl, fun h => absurd h (by omega), by go_num, by omega, HO8, WU, HB8⟩
       case measure => simp only [aK]; omega
    ·obtain rfl : n = k := by omega
     have IP : (kH fs Jk ls).length = n := by rw [By]; exact HLl.out
     have IN : bK (IU.map Lp.ps = kH fs Jk ls) := by show _ = _; rw [HP.out, eM (by omega)]
     have rq := zq IP
     have JT := zq (HMh.cat wo va vc IU vL.out IN.out Hva.out (gJ.reads HO.out))
     have Zy := zq HMh.back
     have ge := zq HMh.lim
     have HBxw := zq (ma.out.below Wa.out)
     have HKw : bK (wo.heap[D]? = some (.deferred (some []))) := (Wa.out.block D HDl2.out).trans Kj.out
     have HDw : bK (D < wo.heap.size) := by have h1 := HDl2.out; have h2 := Wa.out.size; show _ < _; omega
     clear HP IP HMh HSz2 HSd2 HRf HRl Sk U9 hlt hk
     generalize kH fs Jk ls = MA at *
     obtain ⟨N, hN⟩ : ∃ N, MA.flatten.length = N := ⟨_, rfl⟩
     rw [hN] at JT Zy ge
     clear hN
     go_wp2_with fail
     refine JT.out.mono ?_
     rintro e W3 ⟨⟨pa, pc, rfl, hrp⟩, hb3⟩
     have HB3 := zq (aQ vL.out hb3)
     have Va := zq (HBxw.out.below hb3)
     have HK3 : bK (W3.heap[D]? = some (.deferred (some []))) := (hb3.block D HDw.out).trans HKw.out
     have St : bK (D < W3.heap.size) := by have h1 := HDw.out; have h2 := hb3.size; show _ < _; omega
     have QC := zq (HO.out.below hb3)
     have Fk := zq hrp
     clear hb3 hrp JT HBxw HKw HDw HO vL Wa
     go_wp2_with fail
     refine (Zy.out W3 w.heap.size pa pc HB3.out Va.out.1 Fk.out).mono ?_
     rintro e W4 ⟨rfl, hb4⟩
     have rT := zq (aQ HB3.out hb4)
     have AL := zq (Va.out.below hb4)
     have HK4 : bK (W4.heap[D]? = some (.deferred (some []))) := (hb4.block D St.out).trans HK3.out
     have HD4 : bK (D < W4.heap.size) := by have h1 := St.out; have h2 := hb4.size; show _ < _; omega
     have HO4 := zq (QC.out.below hb4)
     have HR4 := zq (Fk.out.below hb4)
     clear hb4 HB3 Va HK3 St QC Fk Zy
     generalize MA.flatten.any (Eu fs) = bk at *
     cases bk with
     | true =>
      have HX := zq (HRX.out 2 (by rw [HU5.out]; simp) (by decide))
      have r8 := AL.out.2.2.2.1.cell 0
      have r9 := AL.out.2.2.2.2.cell 0
      have z8 := AL.out.2.2.2.1.fz 0
      have z9 := AL.out.2.2.2.2.fz 0
      have l8 := AL.out.2.2.2.1.lt
      have l9 := AL.out.2.2.2.2.lt
      simp only [aJ, aI] at r8 r9
      go_wp2
      obtain ⟨V, hV, b1, b2, rU⟩ := AL.out.err (aD none 0 0) 2
      have HKV : V.heap[D]? = some (.deferred (some [])) := by rw [← hV]; exact ((dG _ _ _).trans (dG _ _ _)).same D _ HK4.out rfl
      rw [hV]
      refine ⟨by simp, .inl ⟨_, _, rfl, nD HKV, ?_⟩⟩
      exact ⟨_, mE Ec _ _ (w.heap.size + 1 + 1 + 1) (w.heap.size + 1 + 1 + 1 + 1) (aD none 0 0) (aC aB 2) rfl rfl ((b1.putObj _ HKV rfl).cell 0) ((b2.putObj _ HKV rfl).cell 0) Jw yC, HX.out _ ((rU _ rT.out).trans (iH HD.out HKV))⟩
     | false =>
     go_wp2_with fail
     refine (ge.out W4 pa pc rT.out HR4.out).mono ?_
     rintro e W5 ⟨rfl, hb5⟩
     have xX := zq (aQ rT.out hb5)
     have Kx := zq (AL.out.below hb5)
     have VY : bK (W5.heap[D]? = some (.deferred (some []))) := (hb5.block D HD4.out).trans HK4.out
     have QD := zq (HO4.out.below hb5)
     clear hb5 rT AL HK4 HD4 HO4 HR4 ge
     have r8 := Kx.out.2.2.2.1.cell 0
     have r9 := Kx.out.2.2.2.2.cell 0
     have z8 := Kx.out.2.2.2.1.fz 0
     have z9 := Kx.out.2.2.2.2.fz 0
     have l8 := Kx.out.2.2.2.1.lt
     have l9 := Kx.out.2.2.2.2.lt
     simp only [aJ, aI] at r8 r9
     have hPE : PE = 0 := by rw [HU5.out]; simp
     have HPE := zq hPE
     have HPV := zq (OM.out hPE)
     have HlV : bK (w.heap.size + 1 + 1 + 1 + 1 < V2.heap.size) := ma.out.2.2.2.2.lt
     clear hPE
     go_wp2
     obtain ⟨V, hV, b1, b2, rU⟩ := Kx.out.err (aD va n vc) 0
     have HKV : V.heap[D]? = some (.deferred (some [])) := by rw [← hV]; exact ((dG _ _ _).trans (dG _ _ _)).same D _ VY.out rfl
     have HOV : gJ V2.heap.size V (aD va n vc) IU := by
      rw [← hV]
      exact (QD.out.set (p := ⟨w.heap.size + 1 + 1 + 1, 0, none⟩) (by have := HlV.out; show w.heap.size + 1 + 1 + 1 < _; omega) _).set (p := ⟨w.heap.size + 1 + 1 + 1 + 1, 0, none⟩) HlV.out _
     rw [hV]
     refine ⟨by simp, .inl ⟨_, _, rfl, nD HKV, ?_⟩⟩
     refine ⟨_, mE Ec _ _ (w.heap.size + 1 + 1 + 1) (w.heap.size + 1 + 1 + 1 + 1) (aD va n vc) (aC aB 0) rfl rfl ((b1.putObj _ HKV rfl).cell 0) ((b2.putObj _ HKV rfl).cell 0) Jw yC, ?_⟩
     exact ⟨⟨va, vc, IU, by rw [HPV.out, rq.out, HPE.out], by rw [HPV.out]; exact IN.out, gJ.reads (HOV.putObj _ HKV rfl)⟩, (rU _ xX.out).trans (iH HD.out HKV)⟩
  case stop =>
   rintro D c k W hD ⟨⟨⟨hb1, hb2⟩, rfl, hv⟩, hB⟩ hK
   have HX := zq (HY3.out hv)
   have HB := zq hB
   have Hb1 := zq hb1
   have ZO := zq hb2
   have HK := zq hK
   have HD := zq (aU xX.out.size hD)
   clear hb1 hb2 hB HBe xX Kx HT5 HNo0 HSeq WU HHi HCmp HY3 hK hD
   go_wp2
   refine ⟨by simp, .inl ⟨_, _, rfl, nD HK.out, ?_⟩⟩
   exact ⟨_, mE Ec _ _ (w.heap.size + 1 + 1 + 1) (w.heap.size + 1 + 1 + 1 + 1) (aD none 0 0) (aC aB 2) rfl rfl ((Hb1.out.putObj _ HK.out rfl).cell 0) ((ZO.out.putObj _ HK.out rfl).cell 0) Jw yC, HX.out _ (HB.out.trans (iH HD.out HK.out))⟩
end
end
section
open Go Go.RowKit Go.Lib
theorem mc{fs:List Fr}{at':List (List UInt8)}{ls:List Lp}{right:Bool}(h:tO fs at' ls right =true){i:Nat}(hi:i<ls.length):4≤(ls.getD i default).ps.length:=by
 unfold tO at h;have h1:=cP.1 (by simpa using h) i hi;unfold eo at h1;have h2:tM fs at' (ls.getD i default).ps right =true:=by simpa using h1
 unfold tM at h2;simp only[bQ]at h2;simpa using h2.1.1
theorem moveF(a b:Option cO)(nf n ca cb:Nat)(fs:List Fr)(ls:List Lp)(x y:List UInt8)(w:aF)(hE:mN w)
 (hT:Kf w a b nf n fs ls)(hy:Lz y)(hA:tO fs (fR fs x) ls true=true):MoveF a b nf n ca cb fs ls x y w where
 tracer1 W g hW q:=by
  have rz:yJ W (some ⟨g,0,none⟩) [y]:=by
   intro i hi
   have hi:i<1:=hi
   match i,hi with
   |0,_=>exact⟨_,_,rfl,q.cell 0⟩
  refine(sF a b (some ⟨g,0,none⟩) nf n 1 ca cb 1 fs ls [y] W (hE.below hW) (hT.below hW) rfl (by decide) (fun z hz=>by simp only[nI,wA,or_false]at hz;subst hz;exact hy) rz).mono ?_
  rintro e w'⟨⟨a2,n2,c2,rfl,hk⟩,hb⟩
  obtain⟨e4,h3⟩:=hk (by simp)
  subst e4
  exact⟨⟨_,_,rfl,h3⟩,hb⟩
 rf W hW:=hT.rf.below hW
 rl W hW:=hT.rl.below hW
 flen:=hT.hf
 len:=hT.hl
 alen:=by rw[uA];exact hT.hf
 nn:=hT.hm
 size i hi:=⟨mc hA (by rw[hT.hl];exact hi),(hT.hL _ (bU (by rw[hT.hl];exact hi) default)).1⟩
 side i hi j hj:=by
  obtain⟨s,h1,h2⟩:=OI hA (by rw[hT.hl];exact hi) hj
  exact⟨s,h1,by rw[←hT.hf];exact h2⟩
theorem Z7(a b:Option cO)(nf n ca cb:Nat)(fs:List Fr)(ls:List Lp)(x y:List UInt8)(w:aF)(hE:mN w)
 (hT:Kf w a b nf n fs ls)(IT:nf≤ca)(hx:Lz x)(hy:Lz y)(hA:tO fs (fR fs x) ls true=true):
 bE aE 17 #[aD a nf ca,aD b n cb,aA (bs x),aA (bs y)] w (Kk w (tP fs ls x y) (pO fs ls x y)):=by
 have hF:=moveF a b nf n ca cb fs ls x y w hE hT hy hA;have eu:=hT.hn;refine Yl a b nf n ca cb fs ls x y w (moveC a b nf n ca cb fs ls x y w hE hT hx hy hA) (moveE a nf ca fs x y w hE hT.hf eu IT hT.hF hx hy hT.rf) hF ?_ hx.sm hy.sm;have zG:∀k,k<nf→Sm ((fR fs y).getD k []):=fun k hk=>atF_sm hT.hF hy _ (bU (by rw[uA,hT.hf];exact hk) _);have hmo:=fun i hi=>moved_ok (fs:=fs) (nf:=nf) hT.hL zG (fun i hi=>hF.side i (by rw[←hT.hl];exact hi)) (i:=i) (by rw[hT.hl];exact hi);exact moveH a nf n ca fs _ w hE hT.hf (by rw[By];exact hT.hl) hT.hm (by omega) (fun f hf=>(hT.hF f hf).dir) (fun i hi=>by
  have:=hF.size i hi;rw[(hmo i hi).1];omega) (fun i hi j hj=>(hmo i hi).2 j (by rw[←(hmo i hi).1];exact hj)) hT.rf
theorem mg(a b:Option cO)(n ca cb:Nat)(qs:List Po)(w:aF)(hn:qs.length=n)(qJ:n≤1000000)(ra:OK w a qs)(rb:OK w b qs):
 bE aE 19 #[aD a n ca,aD b n cb] w (Rt (aV true) w):=by
 have Ra:=zq ra;have Rb:=zq rb;have Hn:=zq hn;clear ra rb hn;go_enter func19,ntmps19;go_wp2;go_loopw[13] (fun i wr=>∃k:Nat,i=aC aB k∧k≤n∧bK (Below w.heap.size w wr)) (fun i _=>n-(aK i).toNat);case atStart=>exact⟨0,rfl,bM _,aL _ w⟩
 case round=>
  obtain⟨k,rfl,hk,HB⟩:=hrel;by_cases hlt:k<n
  ·obtain⟨pb,po,rfl,c0,c1⟩:=OK.at (Ra.out.below HB.out) (i:=k) (by rw[Hn.out];exact hlt) rfl;obtain⟨qb,qo,rfl,d0,d1⟩:=OK.at (Rb.out.below HB.out) (i:=k) (by rw[Hn.out];exact hlt) rfl;have hji:(k:Int)<(n:Int):=by omega
   generalize qs.getD k default=P at *;obtain⟨px,py⟩:=P;simp only[]at *;have Q:∀W,(Op.equalIn 10000 53 (cF #[aA (bs px),aA (bs py)]) (cF #[aA (bs px),aA (bs py)])).run aE W=.ok true W:=fun W=>by rw[eqPo];simp
   generalize bs px=PX at *;generalize bs py=PY at *;go_wp2;go_region;all_goals
    go_wp2;go_roundw;case rel=>exact⟨k+1,by go_num,by omega,HB.out.drew⟩
    case measure=>simp only[aK];omega
  ·obtain rfl:n=k:=by omega
   go_wp2;go_ret;exact⟨rfl,HB.out⟩
theorem AN(W:aF)(c1 c2:Array aP)(T1 T2:TypeId):bT ((W.alloc (aN c1 T1)).alloc (aN c2 T2)).drew W.heap.size c1 T1∧bT ((W.alloc (aN c1 T1)).alloc (aN c2 T2)).drew (W.heap.size+1) c2 T2∧Below W.heap.size W ((W.alloc (aN c1 T1)).alloc (aN c2 T2)).drew:=by
 obtain⟨a,b,c⟩:=KR (w:=W) (c1:=c1) (c2:=c2) (T1:=T1) (T2:=T2) rfl;exact⟨a,b,c.drew⟩
theorem Vc (a b:Option cO) (nf n ca cb:Nat) (fs:List Fr) (ls:List Lp) (z:List UInt8) (w:aF) (hE:mN w)
 (hT:Kf w a b nf n fs ls) (kj:nf≤12) (h36:(ls.flatMap Lp.ps).length≤36) (hz:Lz z) (hA:tO fs (fR fs z) ls false=true) :
 bE aE 11 #[aD a nf ca,aD b n cb,aA (bs z)] w (Kk w (vJ fs ls z) (qQ fs ls z)):=by
 have fE:=(aL w.heap.size w).alloc (aH _) (aN #[aA (bs z)] 34);have hf:=hT.hf;have hl:=hT.hl;have hn:=hT.hm;have Ns:=hT.hL;have rf:=hT.rf;have rl:=hT.rl;have NQ:=hT.hF;have HC:=zq (sF a b (some ⟨w.heap.size,0,none⟩) nf n 1 ca cb 1 fs ls [z] _ (hE.below fE) (hT.below fE) rfl (by decide) (fun x hx=> by rw [eJ] at hx;subst hx;exact hz) (yJ.one w z));have IN:bK (∀ b2 c2 W,Below w.heap.size w W→yJ W b2 (fR fs z)→bE aE 33 #[cF #[aD a nf ca,aD b2 nf c2],aD b n cb,aV false] W (Rt (aV true) W)):=fun b2 c2 W hW ha=>
  Qr a b2 b nf n ca c2 cb fs (fR fs z) ls false W (hE.below hW) hf (by rw [uA];exact hf) hl (by omega) (fun f hm=> (NQ f hm).dir) Ns (rf.below hW) ha (rl.below hW) hA
 have hh:=trcH_of NQ Ns hz hA (by omega) (by omega) h36;have HGrid:bK (∀ b2 c2 W,Below w.heap.size w W→yJ W b2 (fR fs z)→bE aE 34 #[cF #[aD a nf ca,aD b2 nf c2],aD b n cb] W fun e w' => (∃ G,e=bA (aY (some ⟨G,0,none⟩))∧Mw w' G (Kr fs (fR fs z) ls) (Ks fs (fR fs z) ls) (C5 fs (fR fs z) (Kr fs (fR fs z) ls) (Ks fs (fR fs z) ls) ls))∧Below W.heap.size W w'):=fun b2 c2 W hW ha=>
  Us a b2 b nf ca c2 cb n fs (fR fs z) ls _ _ W (hE.below hW) hf (by rw [uA];exact hf) hl hh.g (rf.below hW) ha (rl.below hW)
 have HLoops:bK (∀ G W,Mw W G (Kr fs (fR fs z) ls) (Ks fs (fR fs z) ls) (C5 fs (fR fs z) (Kr fs (fR fs z) ls) (Ks fs (fR fs z) ls) ls)→bE aE 35 #[aY (some ⟨G,0,none⟩)] W fun e w' => (∃ v los,e=bA v∧gJ W.heap.size w' v los∧los.map Lp.ps=tT fs (fR fs z) ls)∧Below W.heap.size W w'):=fun G W hG=>
  loops_of fs (fR fs z) _ _ ls G W (by have:=hh.x;omega) (by have:=hh.y;omega) (xy_36 hh.x hh.y) hG
 have HSpd:bK (∀ s,s < nf→∀ W,Below w.heap.size w W→bE aE 36 #[(fs.getD s default).v,aA (bs z)] W (Rt (cK #[aA (bs (WQ (fs.getD s default) z)),aC aB 0]) W)):=fun s hs W hW=>
  xq _ (NQ _ (bU (by omega) default)) z hz W (hE.below hW)
 have HArr:bK (∀ b2 c2 W B la cl los,Below w.heap.size w W→yJ W b2 (fR fs z)→los.map Lp.ps=tT fs (fR fs z) ls→gJ B W (aD la los.length cl) los→bE aE 25 #[cF #[aD a nf ca,aD b2 nf c2],aD la los.length cl] W fun e w' => (∃ v mR,e=bA v∧gJ W.heap.size w' v mR∧mR.map Lp.ps=Bv fs (fR fs z) (los.map Lp.ps))∧Below W.heap.size W w'):=fun b2 c2 W B la cl los hW ha hm ho=> by
  have pF:∀ l∈los,l.ps∈tT fs (fR fs z) ls:=fun l hl=> by rw [← hm];exact List.mem_map.2 ⟨l,hl,rfl⟩
  refine J0 a b2 la nf ca c2 los.length cl fs (fR fs z) los W ?_ rfl (fun l hl=> ?_) (fun l hl p hp=> hh.ok.ok _ (pF l hl) p hp) ho.reads (fun p q hp hq V hV=> ?_)
  ·have:=hh.ok.n;rw [← hm,aZ] at this;omega
  ·refine⟨(hh.ok.len _ (pF l hl)).1,(hh.ok.len _ (pF l hl)).2, ?_⟩;have hpos:=(hh.ok.len _ (pF l hl)).1;have zF:=ho.2 l hl;obtain⟨gg,cc,e1⟩:=oN hpos zF;have hc:=zF;rw [e1] at hc;have h5:=(kU hc).2.2.1;unfold Lp.v at e1;injection e1 with e1 e2 e3;omega
  ·obtain⟨s,s1,s2⟩:=hp.side;obtain⟨t,t1,t2⟩:=hq.side;have hB:=aQ hW hV;exact Pd a b2 nf ca c2 fs (fR fs z) p q s t V (hE.below hB) s1 (by omega) t1 (by omega) hf (by rw [uA];exact hf) (rf.below hB) (ha.below hV) hp.x hp.y hq.x hq.y hp.en hq.en
 have HSide:bK (∀ i k,i < (tT fs (fR fs z) ls).length→k < ((tT fs (fR fs z) ls).getD i []).length→∃ s:Nat,(((tT fs (fR fs z) ls).getD i []).getD k default).side=s∧s < nf):=fun i k hi hk=> by
  obtain⟨s,h3,h4⟩:=(hh.at hi hk).side;exact⟨s,h3,by omega⟩
 have HLen:bK ((tT fs (fR fs z) ls).length≤18∧∀ i,i < (tT fs (fR fs z) ls).length→((tT fs (fR fs z) ls).getD i []).length≤10000):=⟨hh.ok.n,fun i hi=> (hh.ok.len _ (bU hi [])).2⟩;have R3:bK (XN fs z (tT fs (fR fs z) ls)=true→qQ fs ls z=17):=fun h=> ip h;have R5:bK (XN fs z (tT fs (fR fs z) ls)=false→qQ fs ls z=0∧vJ fs ls z=Bv fs (fR fs z) (tT fs (fR fs z) ls)):=fun h=> by
  have:qQ fs ls z=0:=iN (by rw [h];decide);exact⟨this,by unfold vJ;rw [ip this]⟩
 have R4:bK (∀ c,qQ fs ls z=c→c≠0→vJ fs ls z= []):=fun c h h2=> by unfold vJ;rw [h,iN h2]
 have bad:bK (∀ c:Int,qQ fs ls z=c→c≠0→∀ W,Below w.heap.size w W→Kk w (vJ fs ls z) (qQ fs ls z) (bA (cK #[aD none 0 0,aC aB c])) W):=fun c h h2 W hB=>
  ⟨⟨none,0, [],by rw [R4.out c h h2,h];rfl,by rw [R4.out c h h2];rfl,fun i hi=> absurd hi (by simp)⟩,hB⟩
 have HRf:bK (∀ W,Below w.heap.size w W→vT W a fs):=fun W hW=> rf.below hW;have Hfl:=zq hf;have fV:=zq fE;clear hE hl Ns hz rf rl fE R4 hh NQ kj h36 hf hT hA hn;generalize hPV:vJ fs ls z=PV at *;generalize qQ fs ls z=PE at *;clear hPV;have hL' :fR fs (([z]:List (List UInt8)).getD 0 [])=fR fs z:=rfl;have HZ:bK (∀ Fh i,jb fs z Fh i=anyN (N4 fs z (Fh.getD i [])) (Fh.getD i []).length):=fun _ _=> rfl;unfold dr at HC;rw [hL'] at HC;clear hL';generalize tT fs (fR fs z) ls=T at *;generalize fR fs z=L at *;go_enter func11,ntmps11;go_wp2_with fail
 refine HC.out.mono ?_;rintro e W1 ⟨⟨a2,n2,c2,rfl,hk⟩,hb1⟩;obtain⟨e4,ha⟩:=hk (by first | exact Nat.zero_lt_one | trivial | simp);have e4:=e4.symm;subst e4;have eC:=zq (aQ fV.out hb1);have WR:=zq (eC.out.alloc eC.out.size (aN #[aD a nf ca,aD a2 nf c2] 64));have QT:=zq (bT.new W1 #[aD a nf ca,aD a2 nf c2] 64);have Ha:=zq (ha.below ((aL W1.heap.size W1).alloc (aH _) (aN #[aD a nf ca,aD a2 nf c2] 64)));clear ha hb1 HC fV;go_wp2_with fail
 refine(IN.out _ _ _ WR.out Ha.out).mono ?_;rintro e W3 ⟨rfl,hb2⟩;have HB3:=zq (aQ WR.out hb2);have QT:=zq (QT.out.below hb2 QT.out.lt);have Ha:=zq (Ha.out.below hb2);obtain⟨TB,hTB⟩:∃ G,W1.heap.size=G:=⟨_,rfl⟩;rw [hTB] at QT ⊢;clear hb2 IN WR hTB eC;obtain⟨t0,t1, -, -,lT⟩:=QT.out.two;go_wp2_with fail
 refine(HGrid.out a2 c2 W3 HB3.out Ha.out).mono ?_;rintro e W4 ⟨⟨G,rfl,hG⟩,hb4⟩;have HG:=zq hG;have rT:=zq (aQ HB3.out hb4);have QT4:=zq (QT.out.below hb4 QT.out.lt);have Ha4:=zq (Ha.out.below hb4);clear hG hb4 t0 t1 lT QT Ha HB3 HGrid;go_wp2_with fail
 refine(HLoops.out G W4 HG.out).mono ?_;rintro e W5 ⟨⟨v,los,rfl,ho,hm⟩,hb5⟩;obtain⟨oa,oc,rfl⟩:=nA ho.1;have xX:=zq (aQ rT.out hb5);have QT5:=zq (QT4.out.below hb5 QT4.out.lt);have Ha5:=zq (Ha4.out.below hb5);have HO:=zq ho;have HR:=zq ho.reads;have Hm:=zq hm;have hN:T.length=los.length:=by rw [← hm,aZ]
 have yh:bK (∀ q,q < los.length→(los.getD q default).ps=T.getD q []):=fun q hq=> by rw [← hm];simp [aG,hq]
 rw [hN] at HSide HLen;have hN18:=HLen.out.1;have HTl:=zq hN;clear ho hm hN hb5 HG rT QT4 Ha4 HLoops;obtain⟨N,hN⟩:∃ N,los.length=N:=⟨_,rfl⟩;rw [hN] at HSide HLen hN18 yh HTl ⊢;have HN:=zq hN;clear hN;go_wp2;go_loopw [42] (fun i wr=> ∃ q:Nat,i=aC aB (q:Int)∧q≤N∧bK (∀ i,i < q→jb fs z T i=false)∧bK (Below W5.heap.size W5 wr)) (fun i _=> N - (aK i).toNat);case atStart=> exact⟨0,rfl,bM _,fun i h=> absurd h (Nat.not_lt_zero _),aL _ _⟩
 case round=>
  obtain⟨q,rfl,hq,HA,HB⟩:=hrel;rename aF=> wo;by_cases hqN:q < N
  ·obtain⟨l,QZ⟩:∃ l,los.getD q default=l:=⟨_,rfl⟩;obtain⟨lb,lo,hoa,l0, -⟩:=(HR.out.below HB.out).at (i:=q) (by rw [HN.out];exact hqN) QZ;subst hoa;have nL:=yh.out q hqN;rw [QZ] at nL;have hsd:=fun k=> HSide.out q k hqN;have yN:=HLen.out.2 q hqN;rw [← nL] at hsd yN;have haq:jb fs z T q=anyN (N4 fs z l.ps) l.ps.length:=by rw [HZ.out,← nL]
   obtain⟨np,Uq⟩:∃ np,l.ps.length=np:=⟨_,rfl⟩;rw [Uq] at l0 hsd yN haq;have Z5:=zq hsd;have HAq:=zq haq;have V9:=zq Uq;have Hlq:=zq QZ;have HK0:bK (anyN (N4 fs z l.ps) 0=false):=rfl;clear nL hsd haq Uq QZ;have hqI:(q:Int) < N:=by omega
   have q0:(0:Int)≤(q:Int):=by omega
   go_wp2;go_loopw [48] (fun i wr=> ∃ k:Nat,i=aC aB (k:Int)∧k≤np∧bK (anyN (N4 fs z l.ps) k=false)∧bK (Below W5.heap.size W5 wr)) (fun i _=> np - (aK i).toNat);case atStart=> exact⟨0,rfl,bM _,HK0.out,HB.out⟩
   case round=>
    clear HB HK0 l0;obtain⟨k,rfl,hk,HK,HB⟩:=hrel;rename aF=> wi;by_cases hlt:k < np
    ·obtain⟨lb',lo', -, -,rp⟩:=(HR.out.below HB.out).at (i:=q) (by rw [HN.out];exact hqN) Hlq.out;have qi:(k + 1) % np < np:=dB _ (by omega);have ef:=Dy k np;obtain⟨s,hs,Ic⟩:=Z5.out k hlt;obtain⟨t,ht,LJ⟩:=Z5.out _ qi;have hak:N4 fs z l.ps k=(((fs.getD s default).up==(fs.getD t default).up) && (WQ (fs.getD s default) z !=WQ (fs.getD t default) z)):=by
      unfold N4;rw [V9.out,hs,ht,nX,nX]
     generalize (k + 1) % np=r at *;obtain⟨pb,po,O8,d0,d1,d2⟩:=rp.at (i:=k) (by rw [V9.out];exact hlt) rfl;obtain⟨pb',po',hpa',g0, -, -⟩:=rp.at (i:=r) (by rw [V9.out];exact qi) rfl;rw [O8] at hpa';injection hpa' with hpa';injection hpa' with e1 e2;subst e1 e2;rw [O8];rw [hs] at d0;rw [ht] at g0;have hBw:=aQ xX.out HB.out;obtain⟨fb,fo,ha1,f0,f1,f2,f3,f4⟩:=(HRf.out _ hBw).at (i:=s) (by rw [Hfl.out];exact Ic) rfl;obtain⟨fb',fo',ha2,h0,h1,h2,h3,h4⟩:=(HRf.out _ hBw).at (i:=t) (by rw [Hfl.out];exact LJ) rfl;rw [ha1] at ha2;injection ha2 with ha2;injection ha2 with e1 e2;subst e1 e2;rw [ha1];have HSf:=zq (HSpd.out s Ic);have HSg:=zq (HSpd.out t LJ);have OB:=zq hak;have vL:=zq hBw;clear rp O8 ha1 hak hBw hs ht;generalize hPK:l.ps.getD k default=pk at d1 d2;clear hPK;generalize bs pk.fr=PF at d1;generalize bs pk.en=PE2 at d2;generalize WQ (fs.getD s default) z=sf at *;generalize WQ (fs.getD t default) z=sg at *;generalize fs.getD s default=f at *;generalize fs.getD t default=g at *;unfold Fr.v Fr.cells at HSf HSg;obtain⟨uY,fco,fdir,JJ,fst⟩:=f;obtain⟨Nt,ee,Gp,gsp,gst⟩:=g;simp only [] at *;generalize bs JJ=FSP at *;generalize bs fst=FST at *;generalize bs gsp=GSP at *;generalize bs gst=GST at *;have Kg:IntKind.i64.wrap ((k:Int) + 1)=(k:Int) + 1:=bI _ (by omega);have NK:¬ np=0:=by omega
     have hri:(r:Int) < (np:Int):=by omega
     have hr0:(0:Int)≤(r:Int):=by omega
     have hkI:(k:Int) < np:=by omega
     have hk0:(0:Int)≤(k:Int):=by omega
     have Zf:(0:Int)≤(s:Int):=by omega
     have hsI:(s:Int) < nf:=by omega
     have ht0:(0:Int)≤(t:Int):=by omega
     have htI:(t:Int) < nf:=by omega
     go_wp2_with fail
     obtain⟨W6,sk⟩:∃ W,wi.alloc (aN #[aC aB s,aA PF,aA PE2] 68)=W:=⟨_,rfl⟩;have hb6:Below wi.heap.size wi W6:=by rw [← sk];exact(aL _ wi).alloc (aH _) _
     have hq6:bT W6 wi.heap.size #[aC aB s,aA PF,aA PE2] 68:=by rw [← sk];exact bT.new _ _ _
     rw [sk];have b0:=hq6.cell 0;simp only [aJ,aI] at b0;have lb6:=hq6.lt;replace g0:=bR hb6 g0;replace f0:=bR hb6 f0;replace f1:=bR hb6 f1;replace f2:=bR hb6 f2;replace f3:=bR hb6 f3;replace f4:=bR hb6 f4;replace h0:=bR hb6 h0;replace h1:=bR hb6 h1;replace h2:=bR hb6 h2;replace h3:=bR hb6 h3;replace h4:=bR hb6 h4;have lpb:pb < W6.heap.size:=bB W6 ⟨pb,_,none⟩ g0;have lfb:fb < W6.heap.size:=bB W6 ⟨fb,_,none⟩ f0;have zV:=zq (aQ HB.out hb6);generalize wi.heap.size=PB at *;clear sk hb6 hq6 d0 d1 d2 HB;go_cut [15,16] (fun u v W=> ∃ g h,u=aY (some ⟨g,0,none⟩)∧v=aY (some ⟨h,0,none⟩)∧bK (bT W g #[aV uY,aC aB fco,aC aB fdir,aA FSP,aA FST] 58)∧bK (bT W h #[aV Nt,aC aB ee,aC aB Gp,aA GSP,aA GST] 58)∧bK (Below W6.heap.size W6 W));case first=>
      go_region_held3 (fun w' => w'.cell? ⟨PB,0,none⟩=some (aC aB s)∧w'.cell? ⟨pb,po + r * 3,none⟩=some (aC aB t)∧(w'.cell? ⟨fb,fo + s * 5,none⟩=some (aV uY)∧w'.cell? ⟨fb,fo + s * 5 + 1,none⟩=some (aC aB fco)∧w'.cell? ⟨fb,fo + s * 5 + 2,none⟩=some (aC aB fdir)∧w'.cell? ⟨fb,fo + s * 5 + 3,none⟩=some (aA FSP)∧w'.cell? ⟨fb,fo + s * 5 + 4,none⟩=some (aA FST))∧(w'.cell? ⟨fb,fo + t * 5,none⟩=some (aV Nt)∧w'.cell? ⟨fb,fo + t * 5 + 1,none⟩=some (aC aB ee)∧w'.cell? ⟨fb,fo + t * 5 + 2,none⟩=some (aC aB Gp)∧w'.cell? ⟨fb,fo + t * 5 + 3,none⟩=some (aA GSP)∧w'.cell? ⟨fb,fo + t * 5 + 4,none⟩=some (aA GST))) (go_keep) (fail)
      all_goals
       go_wp2;go_meet;case rel=>
        first
         | exact⟨_,_,rfl,rfl,(AN W6 _ _ _ _).1,(AN W6 _ _ _ _).2.1,(AN W6 _ _ _ _).2.2⟩
         | exact⟨_,_,rfl,rfl,(AN W6 _ _ _ _).2.1,(AN W6 _ _ _ _).1,(AN W6 _ _ _ _).2.2⟩
         | fail
     case rest=>
     obtain⟨fB,gB,rfl,rfl,HFb,HGb,zU⟩:=hcut;rename aF=> W7;have Ig:=zq (aQ zV.out zU.out);have HBw7:=zq (aQ xX.out Ig.out);clear b0 lb6 g0 f0 f1 f2 f3 f4 h0 h1 h2 h3 h4 lpb lfb zV zU vL;obtain⟨f0,f1,f2,f3,f4⟩:=HFb.out.front;have lf:=HFb.out.lt;go_wp2_with fail
     refine(HSf.out _ HBw7.out).mono ?_;rintro e W8 ⟨rfl,hb8⟩;have HFb8:=zq (HFb.out.below hb8 HFb.out.lt);have HGb8:=zq (HGb.out.below hb8 HGb.out.lt);have HB8:=zq (aQ Ig.out hb8);have HBw8:=zq (aQ HBw7.out hb8);clear hb8 f0 f1 f2 f3 f4 lf HFb HGb Ig HBw7 HSf;obtain⟨f0,f1,f2,f3,f4⟩:=HGb8.out.front;have lf:=HGb8.out.lt;go_wp2_with fail
     refine(HSg.out _ HBw8.out).mono ?_;rintro e W9 ⟨rfl,O7⟩;have HFb9:=zq (HFb8.out.below O7 HFb8.out.lt);have HGb9:=zq (HGb8.out.below O7 HGb8.out.lt);have HB9:=zq (aQ HB8.out O7);have HBw9:=zq (aQ HBw8.out O7);clear O7 f0 f1 f2 f3 f4 lf HFb8 HGb8 HB8 HBw8 HSg;have u0:=HFb9.out.front.1;have v0:=HGb9.out.front.1;have lf:=HFb9.out.lt;have lg:=HGb9.out.lt;have HN1:bK (N4 fs z l.ps k=false→anyN (N4 fs z l.ps) (k + 1)=false):=fun h=> gH HK.out h;by_cases hu:uY=Nt
     ·subst hu;have hub:(uY==uY)=true:=beq_self_eq_true uY;by_cases hv:sf=sg
      ·have WW:((bs sf).toList==(bs sf).toList)=true:=beq_self_eq_true _;subst hv;have OU:=zq (HN1.out (by rw [OB.out];simp));clear HN1 OB;generalize bs sf=SF at *;go_wp2;go_roundw;case rel=> exact⟨k + 1,by go_num,by omega,OU.out,HB9.out⟩
       case measure=> simp only [aK];omega
      ·have WW:((bs sf).toList==(bs sg).toList)=false:=by rw [LI];exact beq_false_of_ne hv
       have e1:PE=17:=R3.out (by
        unfold XN;rw [eA];refine⟨q,by rw [HTl.out];exact hqN, ?_⟩;rw [HAq.out,eA];exact⟨k,hlt,by rw [OB.out];simp [hv]⟩)
       have E2:=zq (bad.out 17 e1 (by decide) W9 HBw9.out);clear e1 HN1 OB hv;generalize bs sf=SF at *;generalize bs sg=SG at *;go_wp2;go_ret2;exact E2.out
     ·have hub:(uY==Nt)=false:=beq_false_of_ne hu;have OU:=zq (HN1.out (by rw [OB.out,hub];rfl));clear HN1 OB hu;generalize bs sf=SF at *;generalize bs sg=SG at *;go_wp2;go_roundw;case rel=> exact⟨k + 1,by go_num,by omega,OU.out,HB9.out⟩
      case measure=> simp only [aK];omega
    ·obtain rfl:k=np:=by omega
     have NX:bK (∀ i,i < q + 1→jb fs z T i=false):=fun i hi=> by
      rcases fP i q with h | h
      ·exact HA.out i h
      ·obtain rfl:i=q:=by omega
       rw [HAq.out];exact HK.out
     have hkge:¬ ((k:Int) < (k:Int)):=by omega
     go_wp2;go_roundw;case rel=> exact⟨q + 1,by go_num,by omega,NX.out,HB.out⟩
     case measure=> simp only [aK];omega
  ·obtain rfl:q=N:=by omega
   obtain⟨e1,e2⟩:=R5.out (by
    unfold XN;rw [cP];intro i hi;exact HA.out i (by rw [← HTl.out];exact hi))
   have vL:=zq (aQ xX.out HB.out);have hA:=HArr.out a2 c2 wo W4.heap.size oa oc los vL.out (Ha5.out.below HB.out) Hm.out (HO.out.below HB.out);rw [HN.out] at hA;have HA3:=zq hA;have hPl:PV.length=q:=by rw [e2];unfold Bv;rw [AE,aZ];exact HTl.out
   have Zv:=zq hPl;have E1:=zq e1;have E2:=zq e2;have hqge:¬ ((q:Int) < (q:Int)):=by omega
   obtain⟨t0,t1, -, -,lT⟩:=(QT5.out.below HB.out QT5.out.lt).two;clear hA e1 e2 hPl HArr R3 R5 bad HSpd;go_wp2_with fail
   refine HA3.out.mono ?_;rintro e W6 ⟨⟨v,mR,rfl,jg,hm'⟩,hb6⟩;have R:bK (Kk w PV PE (bA (cK #[v,aC aB 0])) W6):=by
    obtain⟨va,vc,rfl⟩:=nA jg.1;have hll:mR.length=PV.length:=by rw [Zv.out,← aZ (f:=Lp.ps),hm'];unfold Bv;rw [AE,aZ,aZ,HN.out]
    refine⟨⟨va,vc,mR,by rw [hll,E1.out],by rw [E2.out,hm',Hm.out],jg.reads⟩,aQ vL.out hb6⟩
   clear jg hm' hb6 HA3;go_wp2;go_ret2;exact R.out
end
section
open Go Go.RowKit Go.Shelf Go.Lib
theorem sq_rdf{W:aF}{F:Nat}(h:bT W F #[aV false,aC aB 0,aC aB 1,aA ⟨#[49]⟩,aA ⟨#[48]⟩,aV true,aC aB 10,aC aB (-1),aA ⟨#[49]⟩,aA ⟨#[48]⟩,aV false,aC aB 10,aC aB (-1),aA ⟨#[49]⟩,aA ⟨#[48]⟩,aV true,aC aB 0,aC aB 1,aA ⟨#[49]⟩,aA ⟨#[48]⟩] 58):vT W (some ⟨F,0,none⟩) tW:=by
 intro i hi;have hi:i<4:=hi;match i,hi with
 |0,_=>exact⟨_,_,rfl,fun j hj=>match j,hj with |0,_=>h.cell 0|1,_=>h.cell 1|2,_=>h.cell 2|3,_=>h.cell 3|4,_=>h.cell 4⟩
 |1,_=>exact⟨_,_,rfl,fun j hj=>match j,hj with |0,_=>h.cell 5|1,_=>h.cell 6|2,_=>h.cell 7|3,_=>h.cell 8|4,_=>h.cell 9⟩
 |2,_=>exact⟨_,_,rfl,fun j hj=>match j,hj with |0,_=>h.cell 10|1,_=>h.cell 11|2,_=>h.cell 12|3,_=>h.cell 13|4,_=>h.cell 14⟩
 |3,_=>exact⟨_,_,rfl,fun j hj=>match j,hj with |0,_=>h.cell 15|1,_=>h.cell 16|2,_=>h.cell 17|3,_=>h.cell 18|4,_=>h.cell 19⟩
theorem sq_rdp{W:aF}{P:Nat}(h:bT W P #[aC aB 0,aA ⟨#[48]⟩,aA ⟨#[49,48]⟩,aC aB 1,aA ⟨#[48]⟩,aA ⟨#[49,48]⟩,aC aB 2,aA ⟨#[49,48]⟩,aA ⟨#[48]⟩,aC aB 3,aA ⟨#[49,48]⟩,aA ⟨#[48]⟩] 68):FE W (some ⟨P,0,none⟩) (AZ [48] [49,48]):=by
 intro i hi;have hi:i<4:=hi;match i,hi with
 |0,_=>exact⟨_,_,rfl,fun j hj=>match j,hj with |0,_=>h.cell 0|1,_=>h.cell 1|2,_=>h.cell 2⟩
 |1,_=>exact⟨_,_,rfl,fun j hj=>match j,hj with |0,_=>h.cell 3|1,_=>h.cell 4|2,_=>h.cell 5⟩
 |2,_=>exact⟨_,_,rfl,fun j hj=>match j,hj with |0,_=>h.cell 6|1,_=>h.cell 7|2,_=>h.cell 8⟩
 |3,_=>exact⟨_,_,rfl,fun j hj=>match j,hj with |0,_=>h.cell 9|1,_=>h.cell 10|2,_=>h.cell 11⟩
theorem Ym(w:aF):bE aE 16 #[] w fun e w'=>(∃a b la,e=bA (cK #[aD a 4 4,aD b 1 1])∧vT w' a tW∧E5 w' b [⟨la,4,AZ [48] [49,48]⟩])∧Below w.heap.size w w':=by
 obtain⟨W0,eY⟩:∃V,((w.alloc (aN #[aV false,aC aB 0,aC aB 1,aA ⟨#[49]⟩,aA ⟨#[48]⟩,aV true,aC aB 10,aC aB (-1),aA ⟨#[49]⟩,aA ⟨#[48]⟩,aV false,aC aB 10,aC aB (-1),aA ⟨#[49]⟩,aA ⟨#[48]⟩,aV true,aC aB 0,aC aB 1,aA ⟨#[49]⟩,aA ⟨#[48]⟩] 58)).alloc (aN #[aC aB 0,aA ⟨#[48]⟩,aA ⟨#[49,48]⟩,aC aB 1,aA ⟨#[48]⟩,aA ⟨#[49,48]⟩,aC aB 2,aA ⟨#[49,48]⟩,aA ⟨#[48]⟩,aC aB 3,aA ⟨#[49,48]⟩,aA ⟨#[48]⟩] 68)).alloc (aN #[aD (some ⟨w.heap.size+1,0,none⟩) 4 4] 39)=V:=⟨_,rfl⟩;have R:bK ((∃a b la,(bA (cK #[aD (some ⟨w.heap.size,0,none⟩) 4 4,aD (some ⟨w.heap.size+1+1,0,none⟩) 1 1]))=bA (cK #[aD a 4 4,aD b 1 1])∧vT W0 a tW∧E5 W0 b [⟨la,4,AZ [48] [49,48]⟩])∧Below w.heap.size w W0):=by
  rw[←eY];refine⟨⟨_,_,some ⟨w.heap.size+1,0,none⟩,rfl,sq_rdf (((bT.new w _ _).alloc _).alloc _),?_⟩,(((aL _ w).alloc (aH _) _).alloc (by simp) _).alloc (by simp <;>omega) _⟩;have q1:=(bT.new (w.alloc (aN #[aV false,aC aB 0,aC aB 1,aA ⟨#[49]⟩,aA ⟨#[48]⟩,aV true,aC aB 10,aC aB (-1),aA ⟨#[49]⟩,aA ⟨#[48]⟩,aV false,aC aB 10,aC aB (-1),aA ⟨#[49]⟩,aA ⟨#[48]⟩,aV true,aC aB 0,aC aB 1,aA ⟨#[49]⟩,aA ⟨#[48]⟩] 58)) #[aC aB 0,aA ⟨#[48]⟩,aA ⟨#[49,48]⟩,aC aB 1,aA ⟨#[48]⟩,aA ⟨#[49,48]⟩,aC aB 2,aA ⟨#[49,48]⟩,aA ⟨#[48]⟩,aC aB 3,aA ⟨#[49,48]⟩,aA ⟨#[48]⟩] 68).alloc (aN #[aD (some ⟨w.heap.size+1,0,none⟩) 4 4] 39);have q2:=bT.new ((w.alloc (aN #[aV false,aC aB 0,aC aB 1,aA ⟨#[49]⟩,aA ⟨#[48]⟩,aV true,aC aB 10,aC aB (-1),aA ⟨#[49]⟩,aA ⟨#[48]⟩,aV false,aC aB 10,aC aB (-1),aA ⟨#[49]⟩,aA ⟨#[48]⟩,aV true,aC aB 0,aC aB 1,aA ⟨#[49]⟩,aA ⟨#[48]⟩] 58)).alloc (aN #[aC aB 0,aA ⟨#[48]⟩,aA ⟨#[49,48]⟩,aC aB 1,aA ⟨#[48]⟩,aA ⟨#[49,48]⟩,aC aB 2,aA ⟨#[49,48]⟩,aA ⟨#[48]⟩,aC aB 3,aA ⟨#[49,48]⟩,aA ⟨#[48]⟩] 68)) #[aD (some ⟨w.heap.size+1,0,none⟩) 4 4] 39;rw[bH]at q1;rw[bH,bH]at q2;intro i hi;have hi:i<1:=hi;match i,hi with
  |0,_=>exact⟨_,_,rfl,q2.cell 0,sq_rdp q1⟩
 go_enter func16,ntmps16;go_wp2;try rw[eY]
 go_ret2;exact R.out
def sqQ:List Po:=[⟨[51],[51]⟩,⟨[55],[51]⟩,⟨[55],[55]⟩,⟨[51],[55]⟩]
theorem sq_rdo{W:aF}{P:Nat}(h:bT W P #[aA ⟨#[51]⟩,aA ⟨#[51]⟩,aA ⟨#[55]⟩,aA ⟨#[51]⟩,aA ⟨#[55]⟩,aA ⟨#[55]⟩,aA ⟨#[51]⟩,aA ⟨#[55]⟩] 53):OK W (some ⟨P,0,none⟩) sqQ:=by
 intro i hi;have hi:i<4:=hi;match i,hi with
 |0,_=>exact⟨_,_,rfl,h.cell 0,h.cell 1⟩
 |1,_=>exact⟨_,_,rfl,h.cell 2,h.cell 3⟩
 |2,_=>exact⟨_,_,rfl,h.cell 4,h.cell 5⟩
 |3,_=>exact⟨_,_,rfl,h.cell 6,h.cell 7⟩
theorem Rs{α β:Type}{f:α→β}{l:List α}{y:β}(h:l.map f=[y]):∃x,l=[x]∧f x=y:=by
 match l,h with
 |[x],h=>exact⟨x,rfl,by simpa using h⟩
theorem sq_move3(a b la:Option cO)(w:aF)(hE:mN w)(rf:vT w a tW)(rl:E5 w b [⟨la,4,AZ [48] [49,48]⟩]):
 bE aE 17 #[aD a 4 4,aD b 1 1,aA ⟨#[48]⟩,aA ⟨#[51]⟩] w fun e w'=>(∃b' c la' lc,e=bA (cK #[aD b' 1 c,aC aB 0])∧E5 w' b' [⟨la',lc,AZ [51] [55]⟩])∧Below w.heap.size w w':=by
 have:=Z7 a b 4 1 4 1 tW [⟨la,4,AZ [48] [49,48]⟩] [48] [51] w hE ⟨rfl,rfl,by decide,by decide,Z2,La la 4 sq_s0 sq_s10,rf,rl⟩ (by decide) sq_z0 sq_z3 (ZX la 4);unfold Kk at this;rw[ZZ,sq_val3]at this;refine yZ this ?_;rintro e w'⟨⟨b',c,los,rfl,hm,hr⟩,hb⟩;obtain⟨⟨la',lc,ps⟩,rfl,hp⟩:=Rs hm;simp only[]at hp;subst hp;exact⟨⟨b',c,la',lc,rfl,hr⟩,hb⟩
theorem sq_move5(a b la:Option cO)(w:aF)(hE:mN w)(rf:vT w a tW)(rl:E5 w b [⟨la,4,AZ [48] [49,48]⟩]):
 bE aE 17 #[aD a 4 4,aD b 1 1,aA ⟨#[48]⟩,aA ⟨#[53]⟩] w fun e w'=>(∃b' c la' lc,e=bA (cK #[aD b' 1 c,aC aB 0])∧E5 w' b' [⟨la',lc,AZ [53] [53]⟩])∧Below w.heap.size w w':=by
 have:=Z7 a b 4 1 4 1 tW [⟨la,4,AZ [48] [49,48]⟩] [48] [53] w hE ⟨rfl,rfl,by decide,by decide,Z2,La la 4 sq_s0 sq_s10,rf,rl⟩ (by decide) sq_z0 sq_z5 (ZX la 4);unfold Kk at this;rw[Z1,sq_val5]at this;refine yZ this ?_;rintro e w'⟨⟨b',c,los,rfl,hm,hr⟩,hb⟩;obtain⟨⟨la',lc,ps⟩,rfl,hp⟩:=Rs hm;simp only[]at hp;subst hp;exact⟨⟨b',c,la',lc,rfl,hr⟩,hb⟩
theorem mh(a b la:Option cO)(c lc:Nat)(w:aF)(hE:mN w)(rf:vT w a tW)(rl:E5 w b [⟨la,lc,AZ [51] [55]⟩]):
 bE aE 18 #[aD a 4 4,aD b 1 c,aA ⟨#[51]⟩] w fun e w'=>(∃pb po c' qa qc,e=bA (cK #[aD (some ⟨pb,po,none⟩) 1 c',aC aB 0])∧w'.cell? ⟨pb,po,none⟩=some (aD qa 4 qc)∧OK w' qa sqQ)∧Below w.heap.size w w':=by
 have:=OL a b 4 1 4 c tW [⟨la,lc,AZ [51] [55]⟩] [51] w hE ⟨rfl,rfl,by decide,by decide,Z2,La la lc sq_s3 sq_s7,rf,rl⟩ sq_z3 (sq_all3 la lc);unfold RetP at this;rw[sq_pl3]at this;refine yZ this ?_;rintro e w'⟨⟨p,c',los,rfl,hm,hr⟩,hb⟩;obtain⟨⟨qa,qc,qs⟩,rfl,hp⟩:=Rs hm;simp only[]at hp;subst hp;obtain⟨pb,po,rfl,h1,h2⟩:=hr 0 (by simp);exact⟨⟨pb,po,c',qa,qc,rfl,h1,h2⟩,hb⟩
theorem sq_trace(a b la:Option cO)(c lc:Nat)(w:aF)(hE:mN w)(rf:vT w a tW)(rl:E5 w b [⟨la,lc,AZ [53] [53]⟩]):
 bE aE 11 #[aD a 4 4,aD b 1 c,aA ⟨#[53]⟩] w fun e w'=>(∃a' c',e=bA (cK #[aD a' 0 c',aC aB 0]))∧Below w.heap.size w w':=by
 have:=Vc a b 4 1 4 c tW [⟨la,lc,AZ [53] [53]⟩] [53] w hE ⟨rfl,rfl,by decide,by decide,Z2,La la lc sq_s5 sq_s5,rf,rl⟩ (by decide) (by show 4≤36;omega) sq_z5 (sq_all5 la lc);unfold Kk at this;rw[U3,sq_tval5]at this;refine yZ this ?_;rintro e w'⟨⟨b',c,los,rfl,-⟩,hb⟩;exact⟨⟨b',c,rfl⟩,hb⟩
theorem mj(w:aF)(hE:mN w):bE aE 5 #[] w (Rt (aV true) w):=by
 have HS:=zq (Ym w);have HE:bK (∀W,Below w.heap.size w W→mN W):=fun W h=>hE.below h;clear hE;go_enter func5,ntmps5;go_wp2_with fail
 refine HS.out.mono ?_;rintro e W1⟨⟨a,b,la,rfl,hf1,hl1⟩,hb1⟩;have rk:=zq hf1;have HL1:=zq hl1;have eC:=zq hb1;clear HS hf1 hl1 hb1;go_wp2_with fail
 refine(sq_move3 a b la W1 (HE.out _ eC.out) rk.out HL1.out).mono ?_;rintro e W2⟨⟨b3,c3,la3,lc3,rfl,hl3⟩,hb2⟩;have Mr:=zq (rk.out.below hb2);have ez:=zq (HL1.out.below hb2);have HL3:=zq hl3;have eT:=zq (aQ eC.out hb2);clear hl3 hb2 rk HL1 eC;go_wp2_with fail
 refine(mh a b3 la3 c3 lc3 W2 (HE.out _ eT.out) Mr.out HL3.out).mono ?_;rintro e W3⟨⟨pb,po,c',qa,qc,rfl,hp,ho⟩,hb3⟩;have N0:=zq (Mr.out.below hb3);have HL3':=zq (ez.out.below hb3);have HP3:=zq hp;have QC:=zq ho;have HB3:=zq (aQ eT.out hb3);clear hp ho hb3 Mr ez HL3 eT;go_wp2_with fail
 refine(sq_move5 a b la W3 (HE.out _ HB3.out) N0.out HL3'.out).mono ?_;rintro e W4⟨⟨b5,c5,la5,lc5,rfl,hl5⟩,hb4⟩;have KU:=zq (N0.out.below hb4);have HL5:=zq hl5;have HP4:=zq (bR hb4 HP3.out);have HO4:=zq (QC.out.below hb4);have rT:=zq (aQ HB3.out hb4);clear hl5 hb4 N0 HL3' HP3 QC HB3;go_wp2_with fail
 refine(sq_trace a b5 la5 c5 lc5 W4 (HE.out _ rT.out) KU.out HL5.out).mono ?_;rintro e W5⟨⟨ta,tc,rfl⟩,hb5⟩;have hp5:=bR hb5 HP4.out;have HP5:=zq hp5;have QD:=zq (HO4.out.below hb5);have xX:=zq (aQ rT.out hb5);clear hb5 KU HL5 HP4 HO4 rT;obtain⟨W6,sk⟩:∃V,W5.alloc (aN #[aA ⟨#[51]⟩,aA ⟨#[51]⟩,aA ⟨#[55]⟩,aA ⟨#[51]⟩,aA ⟨#[55]⟩,aA ⟨#[55]⟩,aA ⟨#[51]⟩,aA ⟨#[55]⟩] 53)=V:=⟨_,rfl⟩;have hb6:Below W5.heap.size W5 W6:=by rw[←sk];exact(aL _ _).alloc (aH _) _
 have HQ6:bK (OK W6 (some ⟨W5.heap.size,0,none⟩) sqQ):=by rw[←sk];exact sq_rdo (bT.new _ _ _)
 have re:=zq (QD.out.below hb6);have zV:=zq (aQ xX.out hb6);clear hb6 QD;go_wp2_with fail
 try rw[sk]
 refine(mg qa (some ⟨W5.heap.size,0,none⟩) 4 qc 4 sqQ W6 rfl (by decide) re.out HQ6.out).mono ?_;rintro e W7⟨rfl,hb7⟩;have Ig:=zq (aQ zV.out hb7);clear hb7;go_wp2;go_ret;exact⟨rfl,Ig.out⟩
end
section
open Go Go.RowKit Go.Lib
theorem Yo{B B':Nat}{W:aF}{v:aP}{los:List Lp}(h:gJ B W v los)(hb:B'≤B):gJ B' W v los:=⟨jO h.1 hb,fun l hl=>jO (h.2 l hl) hb⟩
theorem tr_Begin (a:Option cO) (N cap:Nat) (rs:List Rg) (w:aF) (hl:rs.length=N) (hN:N≤1000) (hn:∀ r,(bF rs r).length≤1000) (rr:GN w a rs) (h0:oW (bF rs) N=0) (hE:mN w) (hD:MU w) :
 bE aE 7 #[cF #[aD a N cap]] w fun e w' => (∃ v los,e=bA (cK #[v,aC aB 0])∧gJ w.heap.size w' v los∧los.map Lp.ps=Bv (eX (bF rs) N) (fG (eX (bF rs) N)) (yU (bF rs) (cV rs) (eX (bF rs) N) N))∧Below w.heap.size w w' :=by
 obtain⟨c0,c1,c2,c3,c4, -⟩:=rI h0;have hC:∀ r,AH (bF rs r):=DH (fun r hr=> BD (by omega)) c3;have hp:∀ r,r < N→4≤(bF rs r).length:=fun r hr=> by
  have:=cP.1 c4 r hr;unfold D0 at this;simp only [Bool.not_eq_false'] at this;unfold nP at this;simp only [bQ,decide_eq_true_eq] at this;exact this.2
 have hNk:∀ k,k≤N→4 * k≤cE (bF rs) k:=by
  intro k;induction k with
  | zero=> intro _;simp [cE]
  | succ k ih=> intro hk;rw [cE];have:=ih (by omega);have:=hp k (by omega);omega
 have hN6:=hNk N (aH _);have pF:∀ r∈rs,r.ss.length≤1000∧0 < r.ss.length:=fun r hr=> by
  obtain⟨i,hi,rfl⟩:=fI hr;have e:bF rs i=rs[i].ss:=by unfold bF;simp [aG,hi]
  rw [← e];exact⟨hn i,by have:=hp i (by omega);omega⟩
 have kw:∀ W,Below w.heap.size w W→bE aE 20 #[cF #[aD a N cap]] W (Rt (aC aB 0) W):=fun W hW=> DK a N cap rs W hl hN hn (rr.below hW) h0;have HFA:=zq (fun W (hW:Below w.heap.size w W)=> Yi a N cap rs W hl hN hn (rr.below hW) h0 (hE.below hW) (hD.below hW) fun V hV=> kw V (aQ hW hV));have Z5:=zq (fun W (hW:Below w.heap.size w W)=> U0 a N cap rs W hl hN (by omega) pF (rr.below hW) fun V hV=> kw V (aQ hW hV));have BM:cE (bF rs) N=(cV rs).length:=by rw [← hl];exact wP
 rw [← BM] at Z5;have Ci:AH (cV rs):=fun i=> by
  rcases fP i (cV rs).length with h | h
  ·obtain⟨r,k,h1,h2,rfl⟩:=Ft (bF rs) N i (by omega);rw [wQ (by omega) h2];exact hC r k
  ·rw [aG,List.getElem?_eq_none h];exact⟨by decide,by decide,by decide,by decide⟩
 have hco:∀ i,i < cE (bF rs) N→0≤((eX (bF rs) N).getD i default).co∧((eX (bF rs) N).getD i default).co≤65536:=fun i hi=> by
  obtain⟨r,k,h1,h2,rfl⟩:=Ft (bF rs) N i hi;rw [sJ _ _ h1 h2];exact co_bd (hC r k)
 have Ie:=nQ (bF rs) N;have HOf:=zq (fun i (hi:i < cE (bF rs) N) W (hW:Below w.heap.size w W)=> Gf ((eX (bF rs) N).getD i default).co W (hE.below hW) (by have:=hco i hi;omega));have eC:=zq (fun i j (hi:i < cE (bF rs) N) (hj:j < cE (bF rs) N) (SB FB:Nat) (sa fa:Option cO) (ca cb:Nat) W (hW:Below w.heap.size w W) cs cf r1 r2=> li SB FB sa fa (cE (bF rs) N) (cE (bF rs) N) ca cb i j (cV rs) (eX (bF rs) N) W (hE.below hW) BM.symm Ie hi hj (by omega) (by omega) cs cf r1 r2 Ci);have HAr:=zq (fun (a2 b2 la:Option cO) (ca c2 cl:Nat) (los:List Lp) W (hW:Below w.heap.size w W) (hll:los.length=N) (nL:los.map Lp.ps=yU (bF rs) (cV rs) (eX (bF rs) N) N) (IT:∀ l∈los,l.ps.length≤l.cap) (rl:E5 W la los) (rf:vT W a2 (eX (bF rs) N)) (ra:yJ W b2 (fG (eX (bF rs) N)))=>
  J0 a2 b2 la (cE (bF rs) N) ca c2 N cl (eX (bF rs) N) (fG (eX (bF rs) N)) los W (by omega) hll (fun l hl=> by
   have hm:l.ps∈yU (bF rs) (cV rs) (eX (bF rs) N) N:=by rw [← nL];exact kZ hl
   obtain⟨r,hr,e⟩:=DM hm;have:=hp r hr;have:=hn r;have hc:=IT l hl;rw [e,pV] at hc ⊢;exact⟨by omega,by omega,hc⟩) (fun l hl p hpm=> by
   have hm:l.ps∈yU (bF rs) (cV rs) (eX (bF rs) N) N:=by rw [← nL];exact kZ hl
   obtain⟨r,hr,e⟩:=DM hm;rw [e] at hpm;obtain⟨k,hk,rfl⟩:=List.mem_map.1 hpm;exact beg_ok Ci hC hr (List.mem_range.1 hk)) rl (fun p q hpo hqo V hV=> by
   obtain⟨⟨s,hs,Kl⟩,px,py,pe⟩:=hpo;obtain⟨⟨t,ht,htl⟩,qx,qy,qe⟩:=hqo;rw [Ie] at Kl htl;exact Pd a2 b2 (cE (bF rs) N) ca c2 (eX (bF rs) N) (fG (eX (bF rs) N)) p q s t V (hE.below (aQ hW hV)) hs Kl ht htl Ie (by unfold fG;rw [aZ,Ie]) (rf.below hV) (ra.below hV) px py qx qy pe qe))
 have HR:=zq rr;have HL:=zq hl;have HN:=zq hn;have HP:=zq hp;have HAt:bK (∀ i,i < cE (bF rs) N→(fG (eX (bF rs) N)).take (i + 1)=(fG (eX (bF rs) N)).take i ++ [bG ((((eX (bF rs) N).getD i default).co:Int):Rat)]):=fun i hi=> by
  unfold fG;rw [cN (by rw [aZ,Ie];exact hi)];simp [aG,Ie,hi]
 have HAl:bK ((fG (eX (bF rs) N)).length=cE (bF rs) N):=by show _=_;unfold fG;rw [aZ,Ie]
 have HEC:bK (∀ r,cE (bF rs) (r + 1)=cE (bF rs) r + (bF rs r).length):=fun r=> rfl;have HEL:bK (∀ r,yU (bF rs) (cV rs) (eX (bF rs) N) (r + 1)=yU (bF rs) (cV rs) (eX (bF rs) N) r ++ [qX (cV rs) (eX (bF rs) N) (cE (bF rs) r) (bF rs r).length (bF rs r).length]):=fun r=> rfl;have HE0:bK (yU (bF rs) (cV rs) (eX (bF rs) N) 0= []):=rfl;have JT:bK (∀ k,k≤N→cE (bF rs) k≤cE (bF rs) N):=fun k hk=> oX hk;have U8:=zq Ie;clear hl rr h0 hE hD c0 c1 c3 c4 hC hp hNk pF kw BM Ci hco hn Ie;generalize yU (bF rs) (cV rs) (eX (bF rs) N)=LS at *;generalize fG (eX (bF rs) N)=AT at *;have HNL:=zq hN6;clear hN6;generalize eX (bF rs) N=FS at *;generalize cV rs=SS at *;obtain⟨M,hM⟩:=nm (cE (bF rs) N);rw [hM] at HFA Z5 HOf eC HAr HAt HAl JT U8 HNL c2;have HM:=zq hM;clear hM;have fE:=(aL _ w).alloc (aH _) (aN #[aD a N cap] 24);have tN:=bT.new w #[aD a N cap] 24;obtain⟨W0,eY⟩:=nm (w.alloc (aN #[aD a N cap] 24));rw [eY] at fE tN;have fV:=zq fE;have nO:=zq tN;have b0:=tN.cell 0;simp only [aJ,aI] at b0;have HW:=zq eY;have H1:=zq (HFA.out _ fE);clear fE tN eY HFA;refine dM func7 rfl ?_;simp only [ntmps7,cD,bD,bV,dQ,dR,cA,cB,cR,cH,dF,cJ];go_upto_region 1 with (fail)
 rw [HW.out];clear HW;go_wp2_with fail
 refine H1.out.mono ?_;rintro e W1 ⟨⟨v1,rfl,Py⟩,hb⟩;obtain⟨fa,fc,rfl⟩:=Dg Py;have HB1' :=zq (aQ fV.out hb);have zW:=zq (nO.out.below hb nO.out.lt);have rk:=zq (vT.own Py);have b0:=bR hb b0;clear hb Py H1 nO fV;obtain⟨W2,Re⟩:=nm (W1.alloc (aN #[aD fa M fc] 27));have hb2:=(aL _ W1).alloc (aH _) (aN #[aD fa M fc] 27);have Nw:=bT.new W1 #[aD fa M fc] 27;rw [Re] at hb2 Nw;have eT:=zq (aQ HB1'.out hb2);have Mr:=zq (rk.out.below hb2);have Cf:=zq Nw;have HQp:=zq (zW.out.below hb2 zW.out.lt);have yr:=zq Re;have H1:=zq (Z5.out _ eT.out);clear hb2 Nw Re Z5 b0;go_upto_region 2 with (fail)
 rw [yr.out];clear yr;have b0:=HQp.out.cell 0;simp only [aJ,aI] at b0;go_wp2_with fail
 refine H1.out.mono ?_;rintro e W3 ⟨⟨sg,sc,rfl,hs3⟩,hb⟩;have HB3:=zq (aQ eT.out hb);have N0:=zq (Mr.out.below hb);have HQ23:=zq (Cf.out.below hb Cf.out.lt);have HQp3:=zq (HQp.out.below hb HQp.out.lt);have HS3:=zq hs3;clear hb hs3 eT Mr Cf HQp H1 b0;obtain⟨W4,hW4⟩:=nm (W3.alloc (aN #[aD (some ⟨sg,0,none⟩) M sc] 54));have hb4:=(aL _ W3).alloc (aH _) (aN #[aD (some ⟨sg,0,none⟩) M sc] 54);have hq4:=bT.new W3 #[aD (some ⟨sg,0,none⟩) M sc] 54;rw [hW4] at hb4 hq4;have rT:=zq (aQ HB3.out hb4);have KU:=zq (N0.out.below hb4);have HS4:=zq (HS3.out.below hb4);have Yp:=zq (HQ23.out.below hb4 HQ23.out.lt);have HQp4:=zq (HQp3.out.below hb4 HQp3.out.lt);have HQ44:=zq hq4;have HW4:=zq hW4;clear hb4 hq4 hW4 HB3 N0 HQ23 HQp3 HS3;go_upto_region 5 with (fail)
 rw [HW4.out];clear HW4;obtain⟨P4,hP4⟩:=nm W1.heap.size;obtain⟨P6,hP6⟩:=nm W3.heap.size;obtain⟨P1,hP1⟩:=nm w.heap.size;rw [hP4] at Yp;rw [hP6] at HQ44;rw [hP1] at HQp4;first | rw [hP4,hP6,hP1] | skip
 clear hP4 hP6 hP1;obtain⟨W5,hW5⟩:=nm (W4.alloc (aN #[aD fa M fc,aD none 0 0] 64));have hb5:=(aL _ W4).alloc (aH _) (aN #[aD fa M fc,aD none 0 0] 64);have hq5:=bT.new W4 #[aD fa M fc,aD none 0 0] 64;rw [hW5] at hb5 hq5;have xX:=zq hb5;have vG:=zq hq5;have HW5:=zq hW5;clear hb5 hq5 hW5;have c4:=Yp.out.cell 0;simp only [aJ,aI] at c4;go_upto_region 8 with (fail)
 rw [HW5.out];clear HW5;obtain⟨G,hG⟩:=nm W4.heap.size;have HG:bK (W4.heap.size=G):=hG;rw [hG] at vG;first | rw [hG] | skip
 clear hG;have c5:=(Yp.out.below xX.out Yp.out.lt).cell 0;simp only [aJ,aI] at c5;have O0:bK (W5.ownsRow (G + 1) 34 1 (aD none 0 0) 0 (dK (AT.take 0))):=⟨by simp [dK], .inl ⟨rfl,rfl⟩⟩;go_wp2;go_loopw [38] (fun i wr=> ∃ (j:Nat) (v:aP),i=aC aB j∧j≤M∧bK (Below W4.heap.size W4 wr)∧bK (bT wr G #[aD fa M fc,v] 64)∧bK (wr.ownsRow (G + 1) 34 1 v j (dK (AT.take j)))) (fun i _=> M - (aK i).toNat);case atStart=> exact⟨0,_,rfl,bM _,xX.out,vG.out,O0.out⟩
 case round=>
  clear O0 vG xX c5 c4;obtain⟨j,v,rfl,hj,HB,QT,pU⟩:=hrel;rename aF=> wr;by_cases hlt:j < M
  ·obtain⟨b1,off,rfl,f0,f1,f2,f3,f4⟩:=(KU.out.below HB.out).at (i:=j) (by rw [U8.out];exact hlt) rfl;have HOj:=zq (HOf.out j hlt);have HTj:=zq (HAt.out j hlt);have hjI:(j:Int) < M:=by omega
   generalize FS.getD j default=f at *;obtain⟨uY,fco,fdir,JJ,fst⟩:=f;simp only [] at f0 f1 f2 f3 f4 HOj HTj;generalize bG ((fco:Int):Rat)=Y at *;generalize bs JJ=FSP at *;generalize bs fst=FST at *;obtain⟨wf,hwf⟩:=nm (wr.alloc (aN #[aV uY,aC aB fco,aC aB fdir,aA FSP,aA FST] 58));have ZJ:=(aL _ wr).alloc (aH _) (aN #[aV uY,aC aB fco,aC aB fdir,aA FSP,aA FST] 58);have hqf:=bT.new wr #[aV uY,aC aB fco,aC aB fdir,aA FSP,aA FST] 58;rw [hwf] at ZJ hqf;have rn:=zq (aQ HB.out ZJ);have HQf:=zq (QT.out.below ZJ QT.out.lt);have Sn:=zq (bJ pU.out ZJ);have q1:=hqf.cell 1;simp only [aJ,List.getElem?_cons_succ,aI] at q1;have HWf:=zq hwf;clear ZJ hqf hwf HB QT pU;go_upto_region 11 with (fail)
   rw [HWf.out];clear HWf f0 f1 f2 f3 f4;have H1:=zq (HOj.out _ (aQ rT.out rn.out));clear HOj;go_wp2_with fail
   refine H1.out.mono ?_;rintro e w2 ⟨rfl,hb⟩;have vL:=zq (aQ rn.out hb);have QT:=zq (HQf.out.below hb HQf.out.lt);have Eo:=bJ Sn.out hb;have NT:G + 1≤w2.heap.size:=QT.out.lt;obtain⟨t0,t1,tf0,tf1,tl⟩:=QT.out.two;have hGl:W4.heap.size≤G:=A9 HG.out;clear rn Sn H1 hb q1 HQf;go_wp2_with (at_builtin;refine Qq rfl _ _ rfl (G + 1) v j _ rfl Eo _ rfl (by omega) NT ?_;intro g1 Tq w1 LH hg1 Tr;have hqg:=zq (QT.out.grown Tr (Bc Eo (by omega)));obtain⟨t0,t1,tf0,tf1,tl⟩:=hqg.out.two)
   have eT:=zq ((dO vL.out Tr Eo (by omega) vL.out.size).setCell (p:=⟨G,1,none⟩) hGl (aD (some ⟨g1,0,none⟩) (j + 1) Tq));have QT2:=zq (hqg.out.set 1 (aD (some ⟨g1,0,none⟩) (j + 1) Tq));rw [← I5,← HTj.out] at LH;have xz:=zq (mX LH (a:=⟨G,1,none⟩) (by show G < G + 1;omega) (aD (some ⟨g1,0,none⟩) (j + 1) Tq));clear Eo LH Tr t0 t1 tf0 tf1 tl hqg vL QT;go_wp2;go_roundw;case rel=> exact⟨j + 1,_,by go_num,by omega,eT.out,QT2.out,xz.out⟩
   case measure=> simp only [aK];omega
  ·obtain rfl:M=j:=by omega
   obtain⟨vb,vc,rfl⟩:=Dg pU.out;have HNr:bK (yJ wr vb AT):=by
    have h:=pU.out;rw [eM (A9 HAl.out)] at h;exact xu (KO.own h)
   have zV:=zq (aQ rT.out HB.out);have HF6:=zq (KU.out.below HB.out);have HS6:=zq (HS4.out.below HB.out);have HQ26:=zq (Yp.out.below HB.out Yp.out.lt);have HQ46:=zq (HQ44.out.below HB.out HQ44.out.lt);have HQp6:=zq (HQp4.out.below HB.out HQp4.out.lt);have b0:=HQp6.out.cell 0;simp only [aJ,aI] at b0;have L0:bK (gJ wr.heap.size wr (aD none 0 0) []):=⟨⟨by simp, .inl ⟨rfl,rfl⟩⟩,fun l hl=> absurd hl (by simp)⟩;clear HB KU HS4 Yp HQ44 HQp4 rT pU HOf HAt;go_wp2;go_loopw [13,14,59] (fun ov fv i wk=> ∃ (ad:Option cO) (co:Nat) (los:List Lp),i=aC aB (los.length:Nat)∧los.length≤N∧fv=aC aB (cE (bF rs) los.length:Nat)∧ov=aD ad los.length co∧bK (los.map Lp.ps=LS los.length)∧bK (gJ wr.heap.size wk (aD ad los.length co) los)∧bK (Below wr.heap.size wr wk)) (fun _ _ i _=> N - (aK i).toNat);case atStart=> exact⟨_,0, [],rfl,bM _,rfl,rfl,HE0.out.symm,L0.out,aL _ _⟩
   case round=>
    clear L0 b0;obtain⟨ad,co,los,rfl,hk,rfl,rfl,Hq,HO,HB⟩:=hrel;rename aF=> wk;obtain⟨r,hr⟩:=nm los.length;rw [hr] at hk Hq HO ⊢;by_cases hrN:r < N
    ·obtain⟨b,o,rfl,k0, -⟩:=(HR.out.below (aQ zV.out HB.out)).at (i:=r) (by rw [HL.out];exact hrN) rfl;rw [show(rs.getD r default).ss.length=(bF rs r).length from rfl] at k0;have JV:=HN.out r;have hp1:=HP.out r hrN;have GQ:=JT.out (r + 1) hrN;have EC:=zq (HEC.out r);rw [EC.out] at GQ;have EL:=zq (HEL.out r);have Hr:=zq hr;clear hr;obtain⟨C1,hC1⟩:=nm (cE (bF rs) (r + 1));rw [hC1] at EC;have HC1:=zq hC1;clear hC1;obtain⟨C0,hC0⟩:=nm (cE (bF rs) r);rw [hC0] at EC EL GQ ⊢;have qr:=zq hC0;clear hC0;obtain⟨n,JX⟩:=nm (bF rs r).length;rw [JX] at EC EL GQ JV hp1 k0;have Sq:=zq JX;clear JX;generalize (rs.getD r default).a=ar at *;generalize (rs.getD r default).cap=cr at *;have hrI:(r:Int) < N:=by omega
     have X0:bK (wk.ownsRow wk.heap.size 68 3 (aD none 0 0) 0 (cQ (qX SS FS C0 n 0))):=⟨rfl, .inl ⟨rfl,rfl⟩⟩;go_wp2;go_loopw [17,65] (fun v i wi=> ∃ k:Nat,i=aC aB k∧k≤n∧bK (wi.ownsRow wk.heap.size 68 3 v k (cQ (qX SS FS C0 n k)))∧bK (Below wk.heap.size wk wi)) (fun _ i _=> n - (aK i).toNat);case atStart=> exact⟨0,rfl,bM _,X0.out,aL _ _⟩
     case round=>
      clear X0 k0;obtain⟨k,rfl,hk2,HX,Zy⟩:=hrel;rename aF=> wi;obtain⟨qb,qc,rfl⟩:=Dg HX.out;by_cases hkn:k < n
      ·have LJ:=KX k n;have hmn:(k + 1) % n < n:=dB _ (by omega);have EB:bK (qX SS FS C0 n (k + 1)=qX SS FS C0 n k ++ [⟨((C0 + k:Nat):Int),bG ((AJ SS FS (C0 + k) (C0 + k):Int):Rat),bG ((AJ SS FS (C0 + k) (C0 + (k + 1) % n):Int):Rat)⟩]):=lj SS FS C0 n k;have Bl:=zq (aQ HB.out Zy.out);have K1:=zq (fun W (hW:Below wi.heap.size wi W)=> eC.out (C0 + k) (C0 + k) (by omega) (by omega) P6 P4 (some ⟨sg,0,none⟩) fa sc fc W (aQ zV.out (aQ Bl.out hW)) ((HQ46.out.below (aQ Bl.out hW) HQ46.out.lt).cell 0) ((HQ26.out.below (aQ Bl.out hW) HQ26.out.lt).cell 0) (HS6.out.below (aQ Bl.out hW)) (HF6.out.below (aQ Bl.out hW)));have K2:=zq (fun W (hW:Below wi.heap.size wi W)=> eC.out (C0 + k) (C0 + (k + 1) % n) (by omega) (by omega) P6 P4 (some ⟨sg,0,none⟩) fa sc fc W (aQ zV.out (aQ Bl.out hW)) ((HQ46.out.below (aQ Bl.out hW) HQ46.out.lt).cell 0) ((HQ26.out.below (aQ Bl.out hW) HQ26.out.lt).cell 0) (HS6.out.below (aQ Bl.out hW)) (HF6.out.below (aQ Bl.out hW)));generalize bG ((AJ SS FS (C0 + k) (C0 + k):Int):Rat)=Y at *;generalize bG ((AJ SS FS (C0 + k) (C0 + (k + 1) % n):Int):Rat)=Z at *;generalize (k + 1) % n=m2 at *;have w1:IntKind.i64.wrap ((k:Int) + 1)=(k:Int) + 1:=bI _ (by omega);have w2:IntKind.i64.wrap ((C0:Int) + m2)=(C0:Int) + m2:=bI _ (by omega);have w3:IntKind.i64.wrap ((C0:Int) + k)=(C0:Int) + k:=bI _ (by omega);simp only [Int.natCast_add] at K1 K2 EB;have v5:¬ n=0:=by omega
       have v6:(k:Int) < n:=by omega
       have H1:=zq (K1.out _ (aL _ wi));clear K1;go_wp2_with fail
       refine H1.out.mono ?_;rintro e w2 ⟨rfl,hb2⟩;have H2:=zq (K2.out _ hb2);clear H1 K2;go_wp2_with fail
       refine H2.out.mono ?_;rintro e w3 ⟨rfl,hb3⟩;have HBv:=zq (aQ Zy.out (hb2.trans (hb3.mono hb2.size)));have dI:=bJ (bJ HX.out hb2) hb3;clear H2 hb2 hb3 Zy HX Bl;go_wp2_with (at_builtin;refine zw rfl _ _ rfl wk.heap.size (aD qb k qc) k _ rfl dI _ _ _ rfl (by omega) HBv.out.size ?_;intro g6 cap6 w6 Av hg6 yj)
       have HBz:=zq (dO HBv.out yj dI (aH _) HBv.out.size);have e6:cQ (qX SS FS C0 n k) ++ [aC aB ((C0:Int) + k),aA (bs Y),aA (bs Z)]=cQ (qX SS FS C0 n (k + 1)):=by rw [EB.out,rE];rfl
       rw [e6] at Av;have HX6:=zq Av;clear dI Av yj e6 HBv EB;go_wp2;go_roundw;case rel=> exact⟨k + 1,by go_num,by omega,HX6.out,HBz.out⟩
       case measure=> simp only [aK];omega
      ·obtain rfl:n=k:=by omega
       have Si:=zq (aQ HB.out Zy.out);have hO1:=HO.out.below Zy.out;have hX1:bK (wi.ownsRow wr.heap.size 68 3 (Lp.mk qb qc (qX SS FS C0 n n)).v (Lp.mk qb qc (qX SS FS C0 n n)).ps.length (cQ (Lp.mk qb qc (qX SS FS C0 n n)).ps)):=by
        have h:=jO HX.out HB.out.size;unfold Lp.v;simp only [pV];exact h
       have oR:=hO1.1;rw [Hr.out] at oR;have LC:=zq hO1;clear hO1 HO HX Zy HB;go_wp2_with (at_builtin;refine TS rfl _ _ rfl wr.heap.size (aD ad r co) r _ rfl oR qb n qc rfl (by omega) Si.out.size ?_;intro g8 Tz w8 Gs hg8 LK)
       have HBz:=zq (dO Si.out LK oR (aH _) Si.out.size);have hlen:(los ++ [Lp.mk qb qc (qX SS FS C0 n n)]).length=r + 1:=by rw [bO,Hr.out];rfl
       have e8:los.map Lp.v ++ [aD qb n qc]=los.map Lp.v ++ [(Lp.mk qb qc (qX SS FS C0 n n)).v]:=by unfold Lp.v;simp only [pV]
       rw [e8] at Gs;have hO8:=LC.out.grow hX1.out LK (by rw [Hr.out];exact Gs);rw [Hr.out] at hO8;have HO8:=zq hO8;have HQ8:bK ((los ++ [Lp.mk qb qc (qX SS FS C0 n n)]).map Lp.ps=LS (r + 1)):=by
        show _=_;rw [eV,Hq.out,EL.out];rfl
       have Rc:=zq hlen;have w4:IntKind.i64.wrap ((C0:Int) + n)=(C1:Int):=by rw [bI _ (by omega),EC.out];omega
       clear oR Gs LK e8 hO8 hlen Si LC hX1 Hq EL;go_wp2;go_roundw;case rel=> exact⟨_,_,los ++ [Lp.mk qb qc (qX SS FS C0 n n)],by rw [Rc.out];go_num,by rw [Rc.out];exact hrN,by rw [Rc.out,HC1.out,EC.out,Int.natCast_add],by rw [Rc.out],by rw [Rc.out];exact HQ8.out,by rw [Rc.out];exact HO8.out,HBz.out⟩
       case measure=> simp only [aK];omega
    ·obtain rfl:N=r:=by omega
     have QT2:=QT.out.below HB.out QT.out.lt;obtain⟨t0,t1,tf0,tf1,tl⟩:=QT2.two;have Ig:=zq (aQ zV.out HB.out);have IT:∀ l∈los,l.ps.length≤l.cap:=fun l hl=> by
      rcases(HO.out.2 l hl).2 with ⟨h1,h2⟩ | ⟨g,c,oL,h1,h2,h3,h4,h5⟩
      ·omega
      ·unfold Lp.v at h1;injection h1 with e1 e2 e3;omega
     have H1:=zq (HAr.out fa vb ad fc vc co los wk Ig.out hr Hq.out IT (gJ.reads HO.out) (HF6.out.below HB.out) (HNr.out.below HB.out));clear QT2 IT HAr HO HB hr;go_wp2_with fail
     refine H1.out.mono ?_;rintro e w2 ⟨⟨v,mR,rfl,h1,h2⟩,hb⟩;have X1:=zq (Yo h1 Ig.out.size);have X2:=zq h2;have X3:=zq (aQ Ig.out hb);rw [Hq.out] at X2;clear h1 h2 hb H1;go_wp2;exact oC (mG rfl _ _) rfl ⟨⟨_,mR,rfl,X1.out,X2.out⟩,X3.out⟩
end
section
open Go Go.RowKit Go.Shelf Go.Lib
def Vd(f:Nat→List Sd)(N:Nat):Bool:= !zK f N&&decide (oW f N=0)
theorem Z8{rs:List Rg}{N r:Nat}(hl:rs.length=N)(h:cE (bF rs) N≤40):(bF rs r).length≤1000:=by
 by_cases hr:r<N
 ·have:=Yc (f:=bF rs) hr;omega
 ·rw[BD (by omega)];exact bM _
theorem Ve (a:Option cO) (N cap:Nat) (rs:List Rg) (w:aF) (hl:rs.length=N) (h40:40 < N) (hN:N≤9223372036854775807) (rr:GN w a rs) :
 bE aE 14 #[cF #[aD a N cap],aC aB 12] w fun e w' => e=bA (aV true)∧Below w.heap.size w w' :=by
 have HR:=zq rr;have HL:=zq hl;clear hl rr;have fV:=zq ((aL _ w).alloc (aH _) (aN #[aD a N cap] 24));have nO:=zq (bT.new w #[aD a N cap] 24);have b0:=nO.out.cell 0;simp only [aJ,aI] at b0;go_enter func14,ntmps14;go_upto_region 1 with (fail)
 generalize w.alloc (aN #[aD a N cap] 24)=W0 at *;go_wp2;go_loopw [5,6] (fun t i wr=> ∃ (r:Nat) (z:Int),i=aC aB r∧t=aC aB z∧r≤N∧wr=W0) (fun _ i _=> N - (aK i).toNat);case atStart=> exact⟨0,0,rfl,rfl,bM _,rfl⟩
 case round=>
  obtain⟨r,z,rfl,rfl,hr,rfl⟩:=hrel;by_cases hrN:r < N
  ·obtain⟨b,o,rfl,c0, -⟩:=(HR.out.below fV.out).at (i:=r) (by rw [HL.out];exact hrN) rfl;generalize (rs.getD r default).ss.length=n at *;have hrI:(r:Int) < N:=by omega
   obtain⟨y,hy⟩:=nm (IntKind.i64.wrap (z + n));go_wp2;go_roundw;case rel=> exact⟨r + 1,y,by go_num,by rw [← hy] <;> rfl,by omega,by first | rfl | trivial⟩
   case measure=> simp only [aK];omega
  ·obtain rfl:N=r:=by omega
   have h4:((N:Int) > 40)=True:=eq_true (by omega);by_cases g1:z > 12 <;> by_cases g2:z≤24 <;> by_cases g3:z > 40;all_goals
    try (exfalso;omega)
   all_goals
    go_wp2;go_ret;exact⟨by first | rfl | (congr 2;simp;omega),fV.out⟩
theorem Yq(a:Option cO)(N cap:Nat)(rs:List Rg)(w:aF)(hl:rs.length=N)(qJ:N≤40→cE (bF rs) N≤9223372036854775807)(hN:N≤9223372036854775807)(rr:GN w a rs):
 bE aE 14 #[cF #[aD a N cap],aC aB 12] w fun e w'=>e=bA (aV (zK (bF rs) N))∧Below w.heap.size w w':=by
 by_cases h:N≤40
 ·exact jz a N cap rs w hl (qJ h) hN rr
 ·rw[show zK (bF rs) N=true from decide_eq_true (.inr (.inr (by omega)))];exact Ve a N cap rs w hl (by omega) hN rr
theorem law_fine(a:Option cO)(N cap:Nat)(rs:List Rg)(w:aF)(hl:rs.length=N)(qJ:N≤40→cE (bF rs) N≤9223372036854775807)(hN:N≤9223372036854775807)(rr:GN w a rs):
 bE aE 4 #[cF #[aD a N cap]] w fun e w'=>e=bA (aV (Vd (bF rs) N))∧Below w.heap.size w w':=by
 have HG:=zq (fun W(hW:Below w.heap.size w W)=>Yq a N cap rs W hl qJ hN (rr.below hW));have HC:bK (zK (bF rs) N=false→∀W,Below w.heap.size w W→bE aE 15 #[cF #[aD a N cap]] W fun e w'=>e=bA (aC aB (oW (bF rs) N))∧Below W.heap.size W w'):=fun h W hW=>by
  obtain⟨h1,h2⟩:=Pq h;exact jw a N cap rs W hl (by omega) (fun r=>Z8 hl (by omega)) (rr.below hW)
 have E:bK (Vd (bF rs) N=(!zK (bF rs) N&&decide (oW (bF rs) N=0))):=rfl;generalize Vd (bF rs) N=R at *;generalize zK (bF rs) N=G at *;generalize oW (bF rs) N=C at *;clear hl qJ hN rr;have fE:=(aL _ w).alloc (aH _) (aN #[aD a N cap] 24);have tN:=bT.new w #[aD a N cap] 24;obtain⟨W0,eY⟩:=nm (w.alloc (aN #[aD a N cap] 24));rw[eY]at fE tN;have fV:=zq fE;have b0:=tN.cell 0;simp only[aJ,aI]at b0;have HW:=zq eY;have H1:=zq (HG.out _ fE);clear fE tN eY HG;refine dM func4 rfl ?_;simp only[ntmps4,cD,bD,bV,dQ,dR,cA,cB,cR,cH,dF,cJ];go_upto_region 1 with(fail)
 rw[HW.out];clear HW;go_wp2_with fail
 refine H1.out.mono ?_;rintro e W1⟨rfl,hb⟩;have eC:=zq (aQ fV.out hb);have b0:=bR hb b0;clear hb H1 fV;cases G with
 |true=>
  obtain rfl:R=false:=E.out;clear HC E;go_wp2;exact oC (iS Tryz.results4 _ _ _) rfl ⟨rfl,eC.out⟩
 |false=>
  have E2:bK (R=decide (C=0)):=E.out;have H2:=zq (HC.out rfl _ eC.out);clear HC E;go_wp2_with fail
  refine H2.out.mono ?_;rintro e W2⟨rfl,hb⟩;have eT:=zq (aQ eC.out hb);clear hb H2 eC b0;have E3:bK (R=(C==0)):=by show _=_;rw[E2.out];rfl
  obtain rfl:=E3.out;go_wp2;exact oC (iS Tryz.results4 _ _ _) rfl ⟨rfl,eT.out⟩
end
section
open Go Go.Lib
section
variable{α:Type}{lt:α→α→Bool}{S:α→Prop}(ht:∀x y z,S x→S y→S z→lt x y=false→lt y z=false→lt x z=false)(ha:∀x y,S x→S y→lt x y=true→lt y x=false)
theorem mm(x:α)(l:List α):(oV lt x l).Perm (x::l):=by
 induction l with
 |nil=>exact .refl _
 |cons y l ih=>
  unfold oV;split
  ·exact .refl _
  ·exact(ih.cons y).trans (.swap x y l)
theorem qY(l:List α):(nU lt l).Perm l:=by
 have:∀(l out:List α),(l.foldl (fun out x=>oV lt x out) out).Perm (out++l):=by
  intro l;induction l with
  |nil=>intro out;rw[pZ];exact .refl _
  |cons x l ih=>intro out;exact(ih _).trans (((mm x out).append_right l).trans List.perm_middle.symm)
 exact this l []
include ht ha
theorem mn{x:α}{l:List α}(hx:S x)(hl:∀y∈l,S y)(h:GK lt l):GK lt (oV lt x l):=by
 unfold GK at *;induction l with
 |nil=>simp[oV]
 |cons y l ih=>
  rw[List.pairwise_cons]at h;have hy:=hl y (cW ..);unfold oV;split
  ·rename_i c;refine List.pairwise_cons.2 ⟨fun b hb=>?_,List.pairwise_cons.2 h⟩;rcases List.mem_cons.1 hb with e|hb
   ·rw[e];exact ha x y hx hy c
   ·exact ht b y x (hl b (dA _ hb)) hy hx (h.1 b hb) (ha x y hx hy c)
  ·rename_i c;refine List.pairwise_cons.2 ⟨fun b hb=>?_,ih (fun z hz=>hl z (dA _ hz)) h.2⟩;rcases(GL lt x l b).1 hb with e|hb
   ·rw[e];simpa using c
   ·exact h.1 b hb
theorem M5{l:List α}(hl:∀y∈l,S y):GK lt (nU lt l):=by
 have:∀(l out:List α),(∀y∈l,S y)→(∀y∈out,S y)→GK lt out→GK lt (l.foldl (fun out x=>oV lt x out) out):=by
  intro l;induction l with
  |nil=>intro out _ _ h;exact h
  |cons x l ih=>
   intro out h1 h2 h3;refine ih _ (fun y hy=>h1 y (dA _ hy)) (fun y hy=>?_) (mn ht ha (h1 x (cW ..)) h2 h3);rcases(GL lt x out y).1 hy with e|e
   ·rw[e];exact h1 x (cW ..)
   ·exact h2 y e
 exact this l [] hl (fun y hy=>absurd hy (by simp)) Jv
theorem sortL_eq{l m:List α}(hl:∀y∈l,S y)(h:l.Perm m)(he:∀a b,a∈l→b∈l→lt a b=false→lt b a=false→a=b):nU lt l=nU lt m:=
 List.Perm.eq_of_pairwise (le:=fun a b=>lt b a=false) (fun a b h1 h2 h3 h4=>he a b ((qY l).mem_iff.1 h1) (h.mem_iff.2 ((qY m).mem_iff.1 h2)) h4 h3)
  (M5 ht ha hl) (M5 ht ha fun y hy=>hl y (h.mem_iff.2 hy)) ((qY l).trans (h.trans (qY m).symm))
end
section
variable{fs:List Fr}{at':List (List UInt8)}
theorem M6{ps:List Pt}(h:∀i,i<ps.length→uS fs at' (ps.getD i default)):∀m,m≤ps.length→∀i,i<m→¬N3 fs at' (ps.getD i default) (ps.getD (gQ fs at' ps m) default)
 |0,_,i,hi=>by omega
 |m+1,hm,i,hi=>by
  have ih:=M6 h m (by omega)
  have IP:gQ fs at' ps m≤m:=by
   rcases Nat.eq_zero_or_pos m with e|e
   ·subst e;simp[gQ]
   ·exact Nat.le_of_lt (qH fs at' ps m e)
  unfold gQ;by_cases hc:BY fs at' (ps.getD m default) (ps.getD (gQ fs at' ps m) default)<0
  ·rw[ip hc];rw[yR (h m (by omega)) (h _ (by omega))]at hc;rcases fP i m with h1|h1
   ·intro h3;exact ih i h1 (I9 h3 hc)
   ·obtain rfl:i=m:=by omega
    exact KW _ _ _ _
  ·rw[iN hc];rw[yR (h m (by omega)) (h _ (by omega))]at hc;rcases fP i m with h1|h1
   ·exact ih i h1
   ·obtain rfl:i=m:=by omega
    exact hc
def Dis(fs:List Fr)(at':List (List UInt8))(ps:List Pt):Prop:=∀i j,i<ps.length→j<ps.length→i≠j→N3 fs at' (ps.getD i default) (ps.getD j default)∨N3 fs at' (ps.getD j default) (ps.getD i default)
theorem GW(ps:List Pt)(h0:0<ps.length)(i:Nat)(hi:i<ps.length):(pP fs at' ps).getD i default=ps.getD ((i+gQ fs at' ps ps.length)%ps.length) default:=by
 have hm:=qH fs at' ps ps.length h0;unfold pP;generalize gQ fs at' ps ps.length=m at *;by_cases c:i+m<ps.length
 ·rw[bY c,aG,List.getElem?_append_left (by rw[eZ];omega),List.getElem?_drop,aG,D9]
 ·rw[Nat.mod_eq_sub_mod (by omega),bY (by omega),aG,List.getElem?_append_right (by rw[eZ];omega),List.getElem?_take,eZ,ip (by omega),aG];congr 2;omega
theorem rotP_rot{ps qs:List Pt}(h:∀i,i<ps.length→uS fs at' (ps.getD i default))(hd:Dis fs at' ps)(h0:0<ps.length)(hl:qs.length=ps.length){k:Nat}(hk:∀i,i<ps.length→qs.getD i default=ps.getD ((i+k)%ps.length) default):pP fs at' qs=pP fs at' ps:=by
 have hq:∀i,i<qs.length→uS fs at' (qs.getD i default):=fun i hi=>by rw[hk i (by omega)];exact h _ (dB _ h0)
 have m1:=qH fs at' ps ps.length h0;have m2:=qH fs at' qs qs.length (by omega);have i1:=M6 h ps.length (aH _);have i2:=M6 hq qs.length (aH _);have hmk:(gQ fs at' qs qs.length+k)%ps.length=gQ fs at' ps ps.length:=by
  refine cZ fun iC=>?_;have hlt:(gQ fs at' qs qs.length+k)%ps.length<ps.length:=dB _ h0;rcases hd _ _ hlt m1 iC with c|c
  ·exact i1 _ hlt c
  ·have e:∃j,j<qs.length∧qs.getD j default=ps.getD (gQ fs at' ps ps.length) default:=by
    refine⟨(gQ fs at' ps ps.length+(ps.length-k%ps.length))%ps.length,by rw[hl];exact dB _ h0,?_⟩;rw[hk _ (dB _ h0),iE];congr 1;have:=dB k h0;rw[←Nat.add_mod_mod _ k,show gQ fs at' ps ps.length+(ps.length-k%ps.length)+k%ps.length=gQ fs at' ps ps.length+ps.length by omega,Nat.add_mod_right,bY m1]
   obtain⟨j,hj,e⟩:=e;refine i2 j hj ?_;rw[e,hk _ (by omega)];exact c
 apply Qy (by rw[xM,xM,hl]);intro i hi;rw[xM]at hi;rw[GW qs (by omega) i hi,GW ps h0 i (by omega),hk _ (by rw[←hl];exact dB _ (by omega)),hl,iE];congr 1;rw[←hl,Nat.add_assoc,←Nat.add_mod_mod,hl];rw[hl]at hmk;rw[hmk]
end
end
section
section
def fS(s:Sg)(x y:Int)(e:Nat):Int:=
 match e with
 |0=>if s.up=false∧s.line=y then xR s.a s.b x else 0
 |1=>if s.up=true∧s.line=x then xR s.a s.b y else 0
 |2=>if s.up=false∧s.line=y then -xR s.a s.b (x-1)else 0
 |_=>if s.up=true∧s.line=x then -xR s.a s.b (y-1)else 0
def Sg.on(s:Sg)(x y:Int):Prop:=(s.up=true→x=s.line∧(s.a≤y∧y≤s.b∨s.b≤y∧y≤s.a))∧(s.up=false→y=s.line∧(s.a≤x∧x≤s.b∨s.b≤x∧x≤s.a))
theorem Z9{s:Sg}{x y:Int}{e:Nat}(h:fS s x y e≠0):s.on x y:=by
 obtain⟨sd,up,line,a,b⟩:=s;unfold fS at h;unfold Sg.on;split at h<;>cases up<;>simp only[xR,bS,reduceCtorEq,true_and,false_and,if_false,ne_eq,not_true,true_implies,false_implies,and_true,true_and]at h⊢<;>(repeat' split at h)<;>omega
def vK(W:Int→Int→Int)(x y:Int)(e:Nat):Int:=match e with |0=>W x y|1=>W (x-1) y|2=>W (x-1) (y-1)|_=>W x (y-1)
def vW(W:Int→Int→Int)(x y:Int)(e:Nat):Int:=match e with |0=>W x (y-1)|1=>W x y|2=>W (x-1) y|_=>W (x-1) (y-1)
theorem Vf(f:Sg→Int)(l:List Sg):oH (fun s=> -f s) l= -oH f l:=by
 induction l with
 |nil=>rfl
 |cons s l ih=>simp only[oH,ih];omega
theorem Di {E:List Sg} (h:Aj E) (x y:Int) (e:Nat):vK (dE E) x y e - vW (dE E) x y e=oH (fS · x y e) E:=by
 have hx:=fun k=> KM E x k;have hy:=fun i=> Qg (ls:= [E]) (by intro l hl;rw [eJ] at hl;subst hl;exact h) i y;simp only [uV,List.flatten_nil,pZ] at hy;match e with
 | 0=> have:=hy x;unfold vK vW fS;simp only [];omega
 | 1=> have:=hx y;unfold vK vW fS;simp only [];omega
 | 2=>
  have:=hy (x - 1);have h2:=Vf (fun s=> if s.up=false∧s.line=y then xR s.a s.b (x - 1) else 0) E;have h3:oH (fun s=> fS s x y 2) E=oH (fun s=> -(if s.up=false∧s.line=y then xR s.a s.b (x - 1) else 0)) E:=tK fun s _=> by unfold fS;simp only [];split <;> simp
  unfold vK vW;simp only [];omega
 | e + 3=>
  have:=hx (y - 1);have h2:=Vf (fun s=> if s.up=true∧s.line=x then xR s.a s.b (y - 1) else 0) E;have h3:oH (fun s=> fS s x y (e + 3)) E=oH (fun s=> -(if s.up=true∧s.line=x then xR s.a s.b (y - 1) else 0)) E:=tK fun s _=> by unfold fS;simp only [];split <;> simp
  unfold vK vW;simp only [];omega
theorem wR{f:Nat→Int}{n:Nat}(h:∀j,j<n→f j=0):eS f n=0:=by
 induction n with
 |zero=>rfl
 |succ n ih=>rw[eS,ih fun j hj=>h j (by omega),h n (by omega)];rfl
theorem xO{f:Nat→Int}{n i:Nat}(hi:i<n)(h:∀j,j<n→j≠i→f j=0):eS f n=f i:=by
 induction n with
 |zero=>omega
 |succ n ih=>
  by_cases e:i=n
  ·subst e;rw[eS,wR fun j hj=>h j (by omega) (by omega)];omega
  ·rw[eS,ih (by omega) fun j hj hn=>h j (by omega) hn,h n (by omega) (by omega)];omega
theorem sumI_two{f:Nat→Int}{n i k:Nat}(hi:i<n)(hk:k<n)(hik:i≠k)(h:∀j,j<n→j≠i→j≠k→f j=0):eS f n=f i+f k:=by
 have h1:=Cu f (fun j=>if j=k then f k else 0) n;have h2:eS (fun j=>if j=k then f k else 0) n=f k:=by
  rw[xO hk fun j _ hj=>by simp[hj]];simp
 have h3:eS (fun j=>f j-if j=k then f k else 0) n=f i:=by
  rw[xO hi fun j hj hn=>by
   by_cases e:j=k
   ·subst e;simp
   ·simp only[e,if_false];rw[h j hj hn e];rfl]
  simp[hik]
 omega
structure gW(E:List Sg):Prop where
 ring:Aj E
 three:3≤E.length
 alt:∀j,j<E.length→(E.getD j default).up≠(E.getD ((j+1)%E.length) default).up
 long:∀j,j<E.length→(E.getD j default).a≠(E.getD j default).b
 disj:∀i j,i<E.length→j<E.length→i≠j→∀x y,(E.getD i default).on x y→(E.getD j default).on x y→(j=(i+1)%E.length∧(x,y)=(E.getD i default).en)∨(i=(j+1)%E.length∧(x,y)=(E.getD j default).en)
def Sg.dir(s:Sg):Nat:=if s.up=true then(if s.a<s.b then 1 else 3)else if s.a<s.b then 0 else 2
def Sg.len(s:Sg):Nat:=(s.b-s.a).natAbs
def Sg.px(s:Sg)(t:Nat):Int:=if s.up=true then s.line else if s.a<s.b then s.a+t else s.a-t
def Sg.py(s:Sg)(t:Nat):Int:=if s.up=true then(if s.a<s.b then s.a+t else s.a-t)else s.line
theorem Sg.dir_lt(s:Sg):s.dir<4:=by unfold Sg.dir;(repeat' split)<;>omega
theorem Yr(s:Sg):(s.px s.len,s.py s.len)=s.en:=by
 unfold Sg.px Sg.py Sg.len Sg.en;split
 ·split <;>(congr 1;omega)
 ·split <;>(congr 1;omega)
theorem Ys(s:Sg):(s.px 0,s.py 0)=s.st:=by
 unfold Sg.px Sg.py Sg.st;split
 ·split <;>(congr 1;omega)
 ·split <;>(congr 1;omega)
theorem N5{s:Sg}{t:Nat}(h:t≤s.len):s.on (s.px t) (s.py t):=by
 unfold Sg.len at h;unfold Sg.on Sg.px Sg.py;refine⟨fun u=>?_,fun u=>?_⟩
 ·rw[ip u,ip u];refine⟨rfl,?_⟩;split <;>omega
 ·rw[iN (by rw[u];decide),iN (by rw[u];decide)];refine⟨rfl,?_⟩;split <;>omega
theorem zL(s:Sg)(t:Nat):s.px (t+1)=jE (s.px t) s.dir∧s.py (t+1)=jF (s.py t) s.dir:=by
 unfold Sg.px Sg.py Sg.dir jE jF
 repeat' split
 all_goals first |(exfalso;omega)|(refine⟨?_,?_⟩<;>omega)|skip
 all_goals simp_all
 all_goals omega
theorem J2{s:Sg}{t u:Nat}(h:s.px t=s.px u)(h2:s.py t=s.py u):t=u:=by
 unfold Sg.px at h
 unfold Sg.py at h2
 repeat' split at h
 all_goals first |(split at h2<;>omega)|omega |skip
 all_goals simp_all
 all_goals omega
theorem fS_p{s:Sg}{t:Nat}(ht:t≤s.len){e:Nat}(he:e<4):fS s (s.px t) (s.py t) e=(if e=s.dir∧t<s.len then 1 else 0)-(if e=(s.dir+2)%4∧0<t then 1 else 0):=by
 obtain⟨sd,up,line,a,b⟩:=s;unfold Sg.len at ht⊢;unfold Sg.px Sg.py Sg.dir fS xR;have h4:e=0∨e=1∨e=2∨e=3:=by omega
 cases up<;>rcases h4 with rfl|rfl|rfl|rfl<;>simp only[bS,reduceCtorEq,true_and,false_and,if_false,if_true]at ht⊢<;>(repeat' split)<;>omega
theorem vertex(W:Int→Int→Int)(x y:Int){d d':Nat}(hd:d<4)(hd':d'<4)(hn:d'≠(d+2)%4)(h:∀e,e<4→vK W x y e-vW W x y e=(if e=d' then 1 else 0)-(if e=(d+2)%4 then 1 else 0)):vK W x y d'=vW W x y ((d+2)%4):=by
 have h0:=h 0 (by omega);have h1:=h 1 (by omega);have h2:=h 2 (by omega);have h3:=h 3 (by omega);have c1:d=0∨d=1∨d=2∨d=3:=by omega
 have c2:d'=0∨d'=1∨d'=2∨d'=3:=by omega
 unfold vK vW at h0 h1 h2 h3⊢;rcases c1 with rfl|rfl|rfl|rfl<;>rcases c2 with rfl|rfl|rfl|rfl<;>simp at h0 h1 h2 h3 hn⊢<;>omega
theorem M7(W:Int→Int→Int)(x y:Int){d:Nat}(hd:d<4):vW W (jE x d) (jF y d) ((d+2)%4)=vK W x y d:=by
 have c1:d=0∨d=1∨d=2∨d=3:=by omega
 rcases c1 with rfl|rfl|rfl|rfl<;>simp[vW,vK,jE,jF]
variable{E:List Sg}
def Cj(E:List Sg)(s:Sg)(t:Nat):Int:=vK (dE E) (s.px t) (s.py t) s.dir
theorem gW.inner(h:gW E){j t:Nat}(hj:j<E.length)(ht:t+1<(E.getD j default).len):Cj E (E.getD j default) (t+1)=Cj E (E.getD j default) t:=by
 obtain⟨s,hs⟩:∃s,E.getD j default=s:=⟨_,rfl⟩;have hl:=h.long j hj;rw[hs]at hl ht⊢;have hf:∀e,e<4→vK (dE E) (s.px (t+1)) (s.py (t+1)) e-vW (dE E) (s.px (t+1)) (s.py (t+1)) e=(if e=s.dir then 1 else 0)-(if e=(s.dir+2)%4 then 1 else 0):=by
  intro e he;rw[Di h.ring,uF,xO hj,hs,fS_p (by omega) he]
  ·simp[ht]
  ·intro i hi Lt;refine cZ fun iC=>?_;have h1:=Z9 iC;have h2:(E.getD j default).on (s.px (t+1)) (s.py (t+1)):=by rw[hs];exact N5 (by omega)
   rcases h.disj i j hi hj Lt _ _ h1 h2 with⟨e1,e2⟩|⟨e1,e2⟩
   ·rw[h.ring i hi,←e1,hs,←Ys]at e2;injection e2 with e2 e3;have:=J2 e2 e3;omega
   ·rw[hs,←Yr]at e2;injection e2 with e2 e3;have:=J2 e2 e3;omega
 unfold Cj;rw[vertex (dE E) _ _ s.dir_lt s.dir_lt (by have:=s.dir_lt;omega) hf,(zL s t).1,(zL s t).2,M7 _ _ _ s.dir_lt]
theorem gW.corner(h:gW E){j:Nat}(hj:j<E.length):Cj E (E.getD ((j+1)%E.length) default) 0=Cj E (E.getD j default) ((E.getD j default).len-1):=by
 have h3:=h.three;obtain⟨k,hk⟩:∃k,(j+1)%E.length=k:=⟨_,rfl⟩;have hkl:k<E.length:=by rw[←hk];exact dB _ (by omega)
 have hjk:j≠k:=by
  rw[←hk];by_cases c:j+1<E.length
  ·rw[bY c];omega
  ·rw[show j+1=E.length by omega,zP];omega
 have hr:=h.ring j hj;have ha:=h.alt j hj;rw[hk]at hr ha⊢;obtain⟨s,hs⟩:∃s,E.getD j default=s:=⟨_,rfl⟩;obtain⟨q,hq⟩:∃q,E.getD k default=q:=⟨_,rfl⟩;have hl:=h.long j hj;have Ox:=h.long k hkl;rw[hs]at hl;rw[hq]at Ox;rw[hs,hq]at hr ha⊢;rw[←Yr,←Ys]at hr;injection hr with hx hy;have hlen:0<s.len:=by unfold Sg.len;omega
 have hlen2:0<q.len:=by unfold Sg.len;omega
 have hf:∀e,e<4→vK (dE E) (q.px 0) (q.py 0) e-vW (dE E) (q.px 0) (q.py 0) e=(if e=q.dir then 1 else 0)-(if e=(s.dir+2)%4 then 1 else 0):=by
  intro e he;rw[Di h.ring,uF,sumI_two hj hkl hjk,hs,hq]
  ·rw[fS_p (by omega) he,←hx,←hy,fS_p (by omega) he];simp[hlen,hlen2];omega
  ·intro i hi Lt hik;refine cZ fun iC=>?_;have h1:=Z9 iC;have h2:(E.getD j default).on (q.px 0) (q.py 0):=by rw[hs,←hx,←hy];exact N5 (by omega)
   rcases h.disj i j hi hj Lt _ _ h1 h2 with⟨e1,e2⟩|⟨e1,e2⟩
   ·rw[h.ring i hi,←e1,hs,←Ys,←hx,←hy]at e2;injection e2 with e2 e3;have:=J2 e2 e3;omega
   ·exact hik (e1.trans hk)
 have hdn:q.dir≠(s.dir+2)%4:=by
  unfold Sg.dir;cases hu:s.up<;>cases hv:q.up<;>simp[hu,hv]at ha⊢<;>(repeat' split)<;>omega
 unfold Cj;rw[vertex (dE E) _ _ s.dir_lt q.dir_lt hdn hf,←hx,←hy,show s.len=s.len-1+1 by omega,(zL s _).1,(zL s _).2,M7 _ _ _ s.dir_lt];rfl
end
section
variable{E:List Sg}
theorem gW.const(h:gW E):∀j,j<E.length→∀t,t<(E.getD j default).len→Cj E (E.getD j default) t=Cj E (E.getD 0 default) 0:=by
 have inn:∀j,j<E.length→∀t,t<(E.getD j default).len→Cj E (E.getD j default) t=Cj E (E.getD j default) 0:=by
  intro j hj t;induction t with
  |zero=>intro _;rfl
  |succ t ih=>intro ht;rw[h.inner hj ht];exact ih (by omega)
 intro j;induction j with
 |zero=>intro h0 t ht;exact inn 0 h0 t ht
 |succ j ih=>
  intro hj t ht;rw[inn _ hj t ht];have hc:=h.corner (j:=j) (by omega);rw[bY hj]at hc;rw[hc];have hl:=h.long j (by omega);exact ih (by omega) _ (by unfold Sg.len;omega)
theorem fS_on2{s:Sg}{x y:Int}{e:Nat}(he:e<4)(h:fS s x y e≠0):s.on (jE x e) (jF y e):=by
 have c1:e=0∨e=1∨e=2∨e=3:=by omega
 obtain⟨sd,up,line,a,b⟩:=s;unfold fS at h;unfold Sg.on jE jF;rcases c1 with rfl|rfl|rfl|rfl<;>cases up<;>simp only[xR,bS,reduceCtorEq,true_and,false_and,if_false,ne_eq,not_true,true_implies,false_implies,and_true,true_and]at h⊢<;>(repeat' split at h)<;>omega
theorem gW.alone(h:gW E){j t i:Nat}(hj:j<E.length)(ht:t<(E.getD j default).len)(hi:i<E.length)(Lt:i≠j):fS (E.getD i default) ((E.getD j default).px t) ((E.getD j default).py t) (E.getD j default).dir=0:=by
 obtain⟨s,hs⟩:∃s,E.getD j default=s:=⟨_,rfl⟩;rw[hs]at ht⊢;refine cZ fun iC=>?_;have h1:=Z9 iC;have h2:=fS_on2 s.dir_lt iC;rw[←(zL s t).1,←(zL s t).2]at h2;have g1:(E.getD j default).on (s.px t) (s.py t):=by rw[hs];exact N5 (by omega)
 have g2:(E.getD j default).on (s.px (t+1)) (s.py (t+1)):=by rw[hs];exact N5 (by omega)
 have d1:=h.disj i j hi hj Lt _ _ h1 g1;have d2:=h.disj i j hi hj Lt _ _ h2 g2;have h3:=h.three;have two:¬(j=(i+1)%E.length∧i=(j+1)%E.length):=by
  rintro⟨e1,e2⟩;by_cases c:i+1<E.length
  ·rw[bY c]at e1;by_cases c2:j+1<E.length
   ·rw[bY c2]at e2;omega
   ·rw[show j+1=E.length by omega,zP]at e2;omega
  ·rw[show i+1=E.length by omega,zP]at e1;rw[e1,bY (by omega)]at e2;omega
 rcases d1 with⟨e1,e2⟩|⟨e1,e2⟩<;>rcases d2 with⟨e3,e4⟩|⟨e3,e4⟩
 ·rw[←e4]at e2;injection e2 with e2 e5;have:=J2 e2 e5;omega
 ·exact two ⟨e1,e3⟩
 ·exact two ⟨e3,e1⟩
 ·rw[←e4]at e2;injection e2 with e2 e5;have:=J2 e2 e5;omega
theorem gW.right(h:gW E){j t:Nat}(hj:j<E.length)(ht:t<(E.getD j default).len):vW (dE E) ((E.getD j default).px t) ((E.getD j default).py t) (E.getD j default).dir=Cj E (E.getD 0 default) 0-1:=by
 have hf:=Di h.ring ((E.getD j default).px t) ((E.getD j default).py t) (E.getD j default).dir;rw[uF,xO hj fun i hi Lt=>h.alone hj ht hi Lt,fS_p (by omega) (Sg.dir_lt _)]at hf;have hc:=h.const j hj t ht;unfold Cj at hc⊢;have hd:=(E.getD j default).dir_lt;rw[ip ⟨rfl,ht⟩,iN (by omega)]at hf;omega
theorem gW.edge (h:gW E) {i k:Int} (iC:oH (fS · i k 1) E≠0):(dE E (i - 1) k=Cj E (E.getD 0 default) 0∧dE E i k=Cj E (E.getD 0 default) 0 - 1)∨(dE E (i - 1) k=Cj E (E.getD 0 default) 0 - 1∧dE E i k=Cj E (E.getD 0 default) 0):=by
 have hex:∃ j,j < E.length∧fS (E.getD j default) i k 1≠0:=by
  refine cZ fun hn=> iC ?_;rw [uF];exact wR fun j hj=> cZ fun c=> hn ⟨j,hj,c⟩
 obtain⟨j,hj,hf⟩:=hex;obtain⟨s,hs⟩:∃ s,E.getD j default=s:=⟨_,rfl⟩;rw [hs] at hf;have hl:=h.long j hj;rw [hs] at hl;have hu:s.up=true∧s.line=i∧xR s.a s.b k≠0:=by
  unfold fS at hf;simp only [] at hf;split at hf
  ·rename_i c;exact⟨c.1,c.2,hf⟩
  ·exact absurd rfl hf
 obtain⟨u1,u2,u3⟩:=hu;have sl:(s.a≤k∧k < s.b)∨(s.b≤k∧k < s.a):=by
  unfold xR at u3;by_cases c:s.a≤k∧k < s.b
  ·exact .inl c
  ·by_cases c2:s.b≤k∧k < s.a
   ·exact .inr c2
   ·rw [iN c,iN c2] at u3;exact absurd rfl u3
 rcases sl with c | c
 ·left;have ht:(k - s.a).toNat < (E.getD j default).len:=by rw [hs];unfold Sg.len;omega
  have e1:=h.const j hj _ ht;have e2:=h.right hj ht;rw [hs] at e1 e2;have hd:s.dir=1:=by unfold Sg.dir;rw [ip u1,ip (by omega)]
  have hx:s.px (k - s.a).toNat=i:=by unfold Sg.px;rw [ip u1];exact u2
  have hy:s.py (k - s.a).toNat=k:=by unfold Sg.py;rw [ip u1,ip (by omega)];omega
  unfold Cj at e1;rw [hd,hx,hy] at e1 e2;exact⟨e1,e2⟩
 ·right;have ht:(s.a - (k + 1)).toNat < (E.getD j default).len:=by rw [hs];unfold Sg.len;omega
  have e1:=h.const j hj _ ht;have e2:=h.right hj ht;rw [hs] at e1 e2;have hd:s.dir=3:=by unfold Sg.dir;rw [ip u1,iN (by omega)]
  have hx:s.px (s.a - (k + 1)).toNat=i:=by unfold Sg.px;rw [ip u1];exact u2
  have hy:s.py (s.a - (k + 1)).toNat=k + 1:=by unfold Sg.py;rw [ip u1,iN (by omega)];omega
  unfold Cj at e1;rw [hd,hx,hy] at e1 e2;unfold vK at e1;unfold vW at e2;simp only [tw] at e1 e2;exact⟨e2,e1⟩
theorem gW.vals (h:gW E) {X Y:Int} (hg:∀ s∈E,lQ X Y s) (k:Int) (n:Nat):dE E ((n:Int) - 1) k=0∨((Cj E (E.getD 0 default) 0=0∨Cj E (E.getD 0 default) 0=1)∧(dE E ((n:Int) - 1) k=Cj E (E.getD 0 default) 0∨dE E ((n:Int) - 1) k=Cj E (E.getD 0 default) 0 - 1)):=by
 induction n with
 | zero=>
  left;have:=FY (ls:= [E]) (X:=X) (Y:=Y) (by intro l hl;rw [eJ] at hl;subst hl;exact h.ring) (by simpa using hg) (i:= -1) (by omega) k;simpa using this
 | succ n ih=>
  have Ie:=Di h.ring (n:Int) k 1;unfold vK vW at Ie;simp only [] at Ie;rw [show((n + 1:Nat):Int) - 1=n by omega];by_cases c:oH (fS · (n:Int) k 1) E=0
  ·rw [c] at Ie;rw [show dE E (n:Int) k=dE E ((n:Int) - 1) k by omega];exact ih
  ·have he:=h.edge c;omega
end
section
variable{E:List Sg}
theorem gW.upr(h:gW E):∃j,j<E.length∧(E.getD j default).up=true:=by
 have h3:=h.three;have ha:=h.alt 0 (by omega);rw[Nat.zero_add,bY (by omega)]at ha;by_cases c:(E.getD 0 default).up=true
 ·exact⟨0,by omega,c⟩
 ·refine⟨1,by omega,?_⟩;cases hu:(E.getD 1 default).up
  ·rw[hu]at ha;exact absurd (by simpa using c) ha
  ·rfl
theorem gW.side(h:gW E){X Y:Int}(hg:∀s∈E,lQ X Y s):Cj E (E.getD 0 default) 0=0∨Cj E (E.getD 0 default) 0=1:=by
 obtain⟨j,hj,hu⟩:=h.upr;have hl:=h.long j hj;have hin:=hg _ (bU hj default);obtain⟨s,hs⟩:∃s,E.getD j default=s:=⟨_,rfl⟩;have hc:=h.const j hj 0 (by unfold Sg.len;omega);rw[hs]at hu hl hin hc;have hi0:0≤s.line:=hin.1;have hv:=h.vals hg;generalize Cj E (E.getD 0 default) 0=c0 at hc hv⊢;unfold Cj at hc;have hx:s.px 0=s.line:=by unfold Sg.px;rw[ip hu]
 by_cases c:s.a<s.b
 ·have hd:s.dir=1:=by unfold Sg.dir;rw[ip hu,ip c]
  rw[hd,hx]at hc;have hv:=hv (s.py 0) s.line.toNat;rw[fJ hi0]at hv;unfold vK at hc;simp only[]at hc;omega
 ·have hd:s.dir=3:=by unfold Sg.dir;rw[ip hu,iN c]
  rw[hd,hx]at hc;have hv:=hv (s.py 0-1) (s.line+1).toNat;rw[fJ (by omega),tw]at hv;unfold vK at hc;simp only[]at hc;omega
theorem Ru(h:Aj E){x y:Int}(hn:∀s∈E,¬s.on x y):∀e,e<4→vK (dE E) x y e=dE E x y∧vW (dE E) x y e=dE E x y:=by
 have hz:∀e,vK (dE E) x y e-vW (dE E) x y e=0:=fun e=>by
  rw[Di h];exact Ct fun s hs=>cZ fun iC=>hn s hs (Z9 iC)
 have h0:=hz 0;have h1:=hz 1;have h2:=hz 2;have h3:=hz 3;unfold vK vW at h0 h1 h2 h3⊢;simp only[]at h0 h1 h2 h3;intro e he;have c1:e=0∨e=1∨e=2∨e=3:=by omega
 rcases c1 with rfl|rfl|rfl|rfl<;>refine⟨?_,?_⟩<;>(try simp only[])<;>omega
def BG(E F:List Sg):Prop:=∀s∈E,∀q∈F,∀x y,s.on x y→¬q.on x y
variable{F:List Sg}
theorem mp(hF:Aj F)(ha:BG E F){j t:Nat}(hj:j<E.length)(ht:t<(E.getD j default).len):
 dE F ((E.getD j default).px (t+1)) ((E.getD j default).py (t+1))=dE F ((E.getD j default).px t) ((E.getD j default).py t):=by
 obtain⟨s,hs⟩:∃s,E.getD j default=s:=⟨_,rfl⟩;have hm:s∈E:=by rw[←hs];exact bU hj _
 rw[hs]at ht⊢;have a0:=Ru hF (fun q hq=>ha s hm q hq _ _ (N5 (s:=s) (t:=t) (by omega))) s.dir s.dir_lt;have a1:=Ru hF (fun q hq=>ha s hm q hq _ _ (N5 (s:=s) (t:=t+1) (by omega))) ((s.dir+2)%4) (by omega);rw[←a0.1,←a1.2,(zL s t).1,(zL s t).2,M7 _ _ _ s.dir_lt]
theorem J5(h:Aj E)(hF:Aj F)(ha:BG E F):∀j,j<E.length→∀t,t≤(E.getD j default).len→dE F ((E.getD j default).px t) ((E.getD j default).py t)=dE F ((E.getD 0 default).px 0) ((E.getD 0 default).py 0):=by
 have inn:∀j,j<E.length→∀t,t≤(E.getD j default).len→dE F ((E.getD j default).px t) ((E.getD j default).py t)=dE F ((E.getD j default).px 0) ((E.getD j default).py 0):=by
  intro j hj t;induction t with
  |zero=>intro _;rfl
  |succ t ih=>intro ht;rw[mp hF ha hj (by omega)];exact ih (by omega)
 intro j;induction j with
 |zero=>exact fun h0=>inn 0 h0
 |succ j ih=>
  intro hj t ht;rw[inn _ hj t ht];have hr:=h j (by omega);rw[bY hj,←Yr,←Ys]at hr;injection hr with hx hy;rw[←hx,←hy];exact ih (by omega) _ (aH _)
theorem J6(h:Aj E)(hF:Aj F)(ha:BG E F){j t:Nat}(hj:j<E.length)(ht:t<(E.getD j default).len):
 Cj F (E.getD j default) t=dE F ((E.getD 0 default).px 0) ((E.getD 0 default).py 0)∧vW (dE F) ((E.getD j default).px t) ((E.getD j default).py t) (E.getD j default).dir=dE F ((E.getD 0 default).px 0) ((E.getD 0 default).py 0):=by
 have a0:=Ru hF (fun q hq=>ha _ (bU hj _) q hq _ _ (N5 (s:=E.getD j default) (t:=t) (by omega))) (E.getD j default).dir (Sg.dir_lt _);unfold Cj;rw[a0.1,a0.2,J5 h hF ha j hj t (by omega)];exact⟨rfl,rfl⟩
theorem Rv(E F:List Sg)(i k:Int):dE (E++F) i k=dE E i k+dE F i k:=Bd _ _ _
theorem oY(ls:List (List Sg))(i k:Int):dE ls.flatten i k=eS (fun r=>dE (ls.getD r []) i k) ls.length:=by
 induction ls with
 |nil=>rfl
 |cons l ls ih=>
  rw[uV,Rv,ih,bD];have:=EU (fun r=>dE ((l::ls).getD r []) i k) ls.length;simp only[nR,List.getD_cons_zero]at this;omega
end
section
theorem mq(ls:List (List Sg))(x y:Int)(e:Nat):vK (dE ls.flatten) x y e=eS (fun q=>vK (dE (ls.getD q [])) x y e) ls.length:=by
 match e with
 |0=>exact oY ls _ _
 |1=>exact oY ls _ _
 |2=>exact oY ls _ _
 |e+3=>exact oY ls _ _
theorem mr(ls:List (List Sg))(x y:Int)(e:Nat):vW (dE ls.flatten) x y e=eS (fun q=>vW (dE (ls.getD q [])) x y e) ls.length:=by
 match e with
 |0=>exact oY ls _ _
 |1=>exact oY ls _ _
 |2=>exact oY ls _ _
 |e+3=>exact oY ls _ _
def Vg(ls:List (List Sg))(r q:Nat):Int:=
 if q=r then Cj (ls.getD r []) ((ls.getD r []).getD 0 default) 0 else dE (ls.getD q []) (((ls.getD r []).getD 0 default).px 0) (((ls.getD r []).getD 0 default).py 0)
structure oZ(ls:List (List Sg))(X Y:Int):Prop where
 simple:∀r,r<ls.length→gW (ls.getD r [])
 grid:∀s∈ls.flatten,lQ X Y s
 apart:∀r q,r<ls.length→q<ls.length→r≠q→BG (ls.getD r []) (ls.getD q [])
 one:∀r,r<ls.length→eS (Vg ls r) ls.length=1
variable{ls:List (List Sg)}{X Y:Int}
theorem oZ.sides(h:oZ ls X Y){r j t:Nat}(hr:r<ls.length)(hj:j<(ls.getD r []).length)(ht:t<((ls.getD r []).getD j default).len):
 vK (dE ls.flatten) (((ls.getD r []).getD j default).px t) (((ls.getD r []).getD j default).py t) ((ls.getD r []).getD j default).dir=1∧vW (dE ls.flatten) (((ls.getD r []).getD j default).px t) (((ls.getD r []).getD j default).py t) ((ls.getD r []).getD j default).dir=0:=by
 have h1:=h.one r hr;have hs:=h.simple r hr;constructor
 ·rw[mq,←h1];refine iF fun q hq=>?_;unfold Vg;by_cases c:q=r
  ·subst c;rw[ip rfl];exact hs.const j hj t ht
  ·rw[iN c];exact(J6 hs.ring (h.simple q hq).ring (h.apart r q hr hq (Ne.symm c)) hj ht).1
 ·have e:eS (fun q=>vW (dE (ls.getD q [])) (((ls.getD r []).getD j default).px t) (((ls.getD r []).getD j default).py t) ((ls.getD r []).getD j default).dir) ls.length=eS (fun q=>Vg ls r q-if q=r then 1 else 0) ls.length:=by
   refine iF fun q hq=>?_;unfold Vg;by_cases c:q=r
   ·subst c;rw[ip rfl,ip rfl];exact hs.right hj ht
   ·rw[iN c,iN c,Int.sub_zero];exact(J6 hs.ring (h.simple q hq).ring (h.apart r q hr hq (Ne.symm c)) hj ht).2
  rw[mr,e,Cu,h1,xO hr fun q _ hq=>by rw[iN hq],ip rfl];rfl
theorem oZ.rings(h:oZ ls X Y):∀l∈ls,Aj l:=by
 intro l hl;obtain⟨r,hr,rfl⟩:=List.mem_iff_getElem.1 hl;have:=(h.simple r hr).ring;rwa[show ls.getD r []=ls[r] by simp[aG,hr]]at this
theorem oZ.cell(h:oZ ls X Y)(i k:Int):gD X Y ls.flatten i k=decide (0<dE ls.flatten i k):=by
 by_cases c:0<dE ls.flatten i k
 ·rw[decide_eq_true c];refine cZ fun hn=>?_;have:=sA h.rings h.grid (i:=i) (k:=k) (by simpa using hn);omega
 ·rw[decide_eq_false c];refine cZ fun hn=>c ?_;exact(rC (by simpa using hn)).2.2.2.2
theorem lft_I(W:Int→Int→Int)(x y:Int)(d:Nat):lft (fun i k=>decide (0<W i k)) x y d=decide (0<vK W x y d):=by
 match d with
 |0=>rfl
 |1=>rfl
 |2=>rfl
 |d+3=>rfl
theorem rgt_I(W:Int→Int→Int)(x y:Int)(d:Nat):rgt (fun i k=>decide (0<W i k)) x y d=decide (0<vW W x y d):=by
 match d with
 |0=>rfl
 |1=>rfl
 |2=>rfl
 |d+3=>rfl
theorem aa{s:Sg}{x y:Int}{d:Nat}(hd:d<4)(h:Iv s x y d):∃t,t<s.len∧s.px t=x∧s.py t=y∧s.dir=d:=by
 have c1:d=0∨d=1∨d=2∨d=3:=by omega
 unfold Iv at h;unfold Sg.len Sg.px Sg.py Sg.dir;rcases c1 with rfl|rfl|rfl|rfl<;>simp only[]at h<;>obtain⟨u,hl,h1,h2⟩:=h
 ·refine⟨(x-s.a).toNat,by omega,?_,?_,?_⟩<;>simp only[u,bS,if_false,if_true]<;>(repeat' split)<;>omega
 ·refine⟨(y-s.a).toNat,by omega,?_,?_,?_⟩<;>simp only[u,bS,if_false,if_true]<;>(repeat' split)<;>omega
 ·refine⟨(s.a-x).toNat,by omega,?_,?_,?_⟩<;>simp only[u,bS,if_false,if_true]<;>(repeat' split)<;>omega
 ·refine⟨(s.a-y).toNat,by omega,?_,?_,?_⟩<;>simp only[u,bS,if_false,if_true]<;>(repeat' split)<;>omega
theorem oZ.border(h:oZ ls X Y){x y:Int}{d:Nat}(hd:d<4):bor (gD X Y ls.flatten) x y d=true↔∃r j t,r<ls.length∧j<(ls.getD r []).length∧t<((ls.getD r []).getD j default).len∧((ls.getD r []).getD j default).px t=x∧((ls.getD r []).getD j default).py t=y∧((ls.getD r []).getD j default).dir=d:=by
 constructor
 ·intro hb;obtain⟨s,hs,ho⟩:=uz h.rings h.grid hb;obtain⟨t,ht,e1,e2,e3⟩:=aa hd ho;obtain⟨l,hl,Kl⟩:=List.mem_flatten.1 hs;obtain⟨r,hr,rfl⟩:=List.mem_iff_getElem.1 hl;obtain⟨j,hj,rfl⟩:=List.mem_iff_getElem.1 Kl;have er:ls.getD r []=ls[r]:=by simp[aG,hr]
  have ej:(ls.getD r []).getD j default=ls[r][j]:=by rw[er];simp[aG,hj]
  exact⟨r,j,t,hr,by rw[er];exact hj,by rw[ej];exact ht,by rw[ej];exact e1,by rw[ej];exact e2,by rw[ej];exact e3⟩
 ·rintro⟨r,j,t,hr,hj,ht,rfl,rfl,rfl⟩;obtain⟨s1,s2⟩:=h.sides hr hj ht;have hc:gD X Y ls.flatten=fun i k=>decide (0<dE ls.flatten i k):=by funext i k;exact h.cell i k
  unfold bor;rw[hc,lft_I,rgt_I,s1,s2];rfl
end
section
variable{ls:List (List Sg)}{X Y:Int}
def gK(s:Sg)(t:Nat):Wy:=⟨s.px t,s.py t,s.dir⟩
theorem oZ.uniq(h:oZ ls X Y){r j t r2 j2 t2:Nat}(hr:r<ls.length)(Zj:r2<ls.length)(hj:j<(ls.getD r []).length)(ZI:j2<(ls.getD r2 []).length)(ht:t<((ls.getD r []).getD j default).len)(ht2:t2<((ls.getD r2 []).getD j2 default).len)
 (hx:((ls.getD r []).getD j default).px t=((ls.getD r2 []).getD j2 default).px t2)(hy:((ls.getD r []).getD j default).py t=((ls.getD r2 []).getD j2 default).py t2):r=r2∧j=j2∧t=t2:=by
 have o1:((ls.getD r []).getD j default).on (((ls.getD r []).getD j default).px t) (((ls.getD r []).getD j default).py t):=N5 (by omega);have o2:((ls.getD r2 []).getD j2 default).on (((ls.getD r2 []).getD j2 default).px t2) (((ls.getD r2 []).getD j2 default).py t2):=N5 (by omega);by_cases e:r=r2
 ·subst e;by_cases e2:j=j2
  ·subst e2;exact⟨rfl,rfl,J2 hx hy⟩
  ·exfalso;rw[←hx,←hy]at o2;rcases(h.simple r hr).disj j j2 hj ZI e2 _ _ o1 o2 with⟨-,e3⟩|⟨-,e3⟩
   ·rw[←Yr]at e3;injection e3 with e3 e4;have:=J2 e3 e4;omega
   ·rw[hx,hy,←Yr]at e3;injection e3 with e3 e4;have:=J2 e3 e4;omega
 ·rw[←hx,←hy]at o2;exact absurd o2 (h.apart r r2 hr Zj e _ (bU hj default) _ (bU ZI default) _ _ o1)
theorem oZ.bord(h:oZ ls X Y){r j t:Nat}(hr:r<ls.length)(hj:j<(ls.getD r []).length)(ht:t<((ls.getD r []).getD j default).len):lH (gD X Y ls.flatten) (gK ((ls.getD r []).getD j default) t)=true:=by
 unfold lH;rw[bQ,decide_eq_true_eq];exact⟨Sg.dir_lt _,(h.border (Sg.dir_lt _)).2 ⟨r,j,t,hr,hj,ht,rfl,rfl,rfl⟩⟩
theorem oZ.next(h:oZ ls X Y){r j t:Nat}(hr:r<ls.length)(hj:j<(ls.getD r []).length)(ht:t<((ls.getD r []).getD j default).len):
 jX (gD X Y ls.flatten) (gK ((ls.getD r []).getD j default) t)=if t+1<((ls.getD r []).getD j default).len then gK ((ls.getD r []).getD j default) (t+1)else gK ((ls.getD r []).getD ((j+1)%(ls.getD r []).length) default) 0:=by
 have hb:=h.bord hr hj ht;have h2:=KN hb;obtain⟨d,hd,-,he,rt⟩:=wH hb;have nL:=zL ((ls.getD r []).getD j default) t;have hxx:jE (gK ((ls.getD r []).getD j default) t).x (gK ((ls.getD r []).getD j default) t).d=((ls.getD r []).getD j default).px (t+1):=nL.1.symm;have hyy:jF (gK ((ls.getD r []).getD j default) t).y (gK ((ls.getD r []).getD j default) t).d=((ls.getD r []).getD j default).py (t+1):=nL.2.symm;rw[hxx,hyy]at he rt;rw[he];obtain⟨r2,j2,t2,a1,a2,a3,a4,a5,a6⟩:=(h.border hd).1 rt;have hs:=h.simple r hr;by_cases c:t+1<((ls.getD r []).getD j default).len
 ·rw[ip c];obtain⟨e1,e2,e3⟩:=h.uniq hr a1 hj a2 c a3 a4.symm a5.symm;subst e1 e2 e3;unfold gK;rw[a6]
 ·rw[iN c];have hk:(j+1)%(ls.getD r []).length<(ls.getD r []).length:=dB _ (by omega);have hl:=hs.long _ hk;have hlen:0<((ls.getD r []).getD ((j+1)%(ls.getD r []).length) default).len:=by unfold Sg.len;omega
  have hri:=hs.ring j hj;rw[←Yr,←Ys]at hri;injection hri with g1 g2;have et:((ls.getD r []).getD j default).len=t+1:=by omega
  rw[et]at g1 g2;obtain⟨e1,e2,e3⟩:=h.uniq hr a1 hk a2 hlen a3 (by rw[←g1,a4]) (by rw[←g2,a5]);subst e1 e2 e3;unfold gK;rw[a6,g1,g2]
end
section
variable{ls:List (List Sg)}{X Y:Int}
def sV(E:List Sg):Nat→Nat
 |0=>0
 |j+1=>sV E j+(E.getD j default).len
theorem preL_at(E:List Sg):∀n k,k<sV E n→∃j t,j<n∧t<(E.getD j default).len∧k=sV E j+t:=by
 intro n;induction n with
 |zero=>intro k h;unfold sV at h;omega
 |succ n ih=>
  intro k h;rw[sV]at h;by_cases c:k<sV E n
  ·obtain⟨j,t,h1,h2,h3⟩:=ih k c;exact⟨j,t,by omega,h2,h3⟩
  ·exact⟨n,k-sV E n,by omega,by omega,by omega⟩
theorem oZ.goes(h:oZ ls X Y){r:Nat}(hr:r<ls.length):∀j,j<(ls.getD r []).length→∀t,t<((ls.getD r []).getD j default).len→jY (jX (gD X Y ls.flatten)) (sV (ls.getD r []) j+t) (gK ((ls.getD r []).getD 0 default) 0)=gK ((ls.getD r []).getD j default) t:=by
 have hs:=h.simple r hr;have inn:∀j,j<(ls.getD r []).length→jY (jX (gD X Y ls.flatten)) (sV (ls.getD r []) j) (gK ((ls.getD r []).getD 0 default) 0)=gK ((ls.getD r []).getD j default) 0→∀t,t<((ls.getD r []).getD j default).len→jY (jX (gD X Y ls.flatten)) (sV (ls.getD r []) j+t) (gK ((ls.getD r []).getD 0 default) 0)=gK ((ls.getD r []).getD j default) t:=by
  intro j hj h0 t;induction t with
  |zero=>intro _;exact h0
  |succ t ih=>
   intro ht;show jX _ (jY _ (sV (ls.getD r []) j+t) _)=_;rw[ih (by omega),h.next hr hj (by omega),ip ht]
 intro j;induction j with
 |zero=>exact fun hj=>inn 0 hj rfl
 |succ j ih=>
  intro hj;refine inn (j+1) hj ?_;have hl:=hs.long j (by omega);have hlen:0<((ls.getD r []).getD j default).len:=by unfold Sg.len;omega
  have h1:=ih (by omega) (((ls.getD r []).getD j default).len-1) (by omega);rw[sV,show sV (ls.getD r []) j+((ls.getD r []).getD j default).len=sV (ls.getD r []) j+(((ls.getD r []).getD j default).len-1)+1 by omega];show jX _ (jY _ (sV (ls.getD r []) j+(((ls.getD r []).getD j default).len-1)) _)=_;rw[h1,h.next hr (by omega) (by omega),iN (by omega),bY hj]
theorem oZ.per(h:oZ ls X Y){r:Nat}(hr:r<ls.length):ri (jX (gD X Y ls.flatten)) (gK ((ls.getD r []).getD 0 default) 0) (sV (ls.getD r []) (ls.getD r []).length):=by
 have hs:=h.simple r hr;have h3:=hs.three;obtain⟨n,hn⟩:∃n,(ls.getD r []).length=n+1:=⟨(ls.getD r []).length-1,by omega⟩;have hl:=hs.long n (by omega);have hl0:=hs.long 0 (by omega);have hlen:0<((ls.getD r []).getD n default).len:=by unfold Sg.len;omega
 have hlen0:0<((ls.getD r []).getD 0 default).len:=by unfold Sg.len;omega
 refine⟨by rw[hn,sV];omega,?_,fun k k0 hk e=>?_⟩
 ·rw[hn,sV,show sV (ls.getD r []) n+((ls.getD r []).getD n default).len=sV (ls.getD r []) n+(((ls.getD r []).getD n default).len-1)+1 by omega];show jX _ (jY _ (sV (ls.getD r []) n+(((ls.getD r []).getD n default).len-1)) _)=_;rw[h.goes hr n (by omega) _ (by omega),h.next hr (by omega) (by omega),iN (by omega),show(n+1)%(ls.getD r []).length=0 by rw[hn];exact zP _]
 ·obtain⟨j,t,h1,h2,rfl⟩:=preL_at _ _ _ hk;rw[h.goes hr j h1 t h2]at e;have ex:((ls.getD r []).getD j default).px t=((ls.getD r []).getD 0 default).px 0:=congrArg Wy.x e;have ey:((ls.getD r []).getD j default).py t=((ls.getD r []).getD 0 default).py 0:=congrArg Wy.y e;obtain⟨-,e2,e3⟩:=h.uniq hr hr h1 (by omega) h2 hlen0 ex ey;subst e2 e3;unfold sV at k0;omega
end
section
variable{ls:List (List Sg)}{X Y:Int}
theorem ri.from{α:Type}{f:α→α}{w:α}{L k:Nat}(h:ri f w L)(hk:k≤L):ri f (jY f k w) L:=by
 obtain⟨h0,h1,h2⟩:=h;refine⟨h0,?_,fun j j0 jl e=>h2 j j0 jl ?_⟩
 ·rw[←mU,D9,mU,h1]
 ·have a:jY f (L-k) (jY f j (jY f k w))=jY f j w:=by
   rw[←mU,←mU,show L-k+j+k=j+L by omega,mU,h1]
  rw[e,←mU,show L-k+k=L by omega,h1]at a;exact a.symm
theorem cycL_rot{α:Type}{f:α→α}{w:α}{L k:Nat}(h1:jY f L w=w)(hk:k≤L):kP f (jY f k w) L=(kP f w L).drop k++(kP f w L).take k:=by
 unfold kP;refine List.ext_getElem (by simp;omega) fun i h2 h3=>?_;simp only[aZ,kO]at h2;rw[List.getElem_append];simp only[List.getElem_map,List.getElem_range,eZ,aZ,kO,List.getElem_drop,List.getElem_take];split
 ·rw[←mU,D9]
 ·rw[←mU,show i+k=(i-(L-k))+L by omega,mU,h1]
end
end
end Go.Proofs.YtkchhginppjaiaaGreatDoor
