import Derived.Laws.StructEq
import Derived.Test.YtcimoodjlopdaaaGreatDoorZ0
import Derived.Test.YtcimoodjlopdaaaGreatDoorZ15
import Derived.Test.YtcimoodjlopdaaaGreatDoorZ16
import Derived.Test.YtcimoodjlopdaaaGreatDoorZ19
import Derived.Test.YtcimoodjlopdaaaGreatDoorZ20
namespace Go.Proofs.YtcimoodjlopdaaaGreatDoor
set_option maxRecDepth 100000
set_option maxHeartbeats 8000000
set_option linter.all false
open Go.Proofs.Tryz
open _root_.Array renaming replicate_succ->eR,replicate_zero->eT
open Bool renaming or_eq_true->iB,true_or->rP,false_or->sE,or_true->Dr
open Go renaming World->aE,Calls->aQ,Value->bB,Addr->dE,undef->iZ,ownFrom_below->Bi
open Go.ByteArray renaming toList_eq->cI
open Go.Ending renaming returned->aO
open Go.Instr renaming index->nA
open Go.IntKind renaming i64->aG
open Go.IntWalk renaming i64_in->aP
open Go.Obj renaming cells->aL
open Go.Op renaming equalIn->Jk
open Go.OwnFrom renaming and->tE
open Go.Program renaming fieldsOf->Ye
open Go.Proofs.Tryz renaming prog->aC,ntmps16->Ji,ntmps15->Jj,func16->KR,func15->KS
open Go.RowKit renaming Below->aJ,intOf->aK,Hid->aY
open Go.RowKit.Below renaming refl->aI,heap_alloc->Kr
open Go.Sem renaming run->Az
open Go.Value renaming string->aA,slice->aB,int->aF,bool->aM,pointer->cB,agg->dM
open Go.World renaming size_alloc->aS,block_lt_of_cell?->bF
open Int renaming tmod_eq_emod_of_nonneg->sT,lt_or_le->OI
open List renaming getD_eq_getElem?_getD->aN,getElem?_cons_zero->bD,getElem?_toArray->bJ,length_map->cG,length_cons->cO,length_nil->eW,append_toArray->fJ,mem_singleton->gF,cons_append->fX,size_toArray->gA,push_toArray->gC,nil_append->iC,mem_append_left->kM,mem_append->zJ,ext_getElem->Cp
open Nat renaming le_refl->aD,lt_of_lt_of_le->bQ,zero_le->bR,lt_or_ge->fC,mod_lt->fW,reduceAdd->jX,reduceSub->jY,not_lt_zero->Ib
open Trans renaming trans->cL
section
open Go Go.RowKit Go.Shelf Go.Lib
section
attribute[local go_sem] Oper.semAt_some
abbrev encW(k:Nat):Array bB:= #[dM #[aF aG 0,aF aG 0,aF aG k]]
theorem mm(F:Fence)(n:Nat)(h7:F.fn 170)(Ig:F.round=none)(hn:1≤n)(Bg G:Nat)(a b:Option dE)(ca cb:Nat)(w:aE)
 (hB:bZ w Bg #[cB (some ⟨G,0,none⟩)] 86)(hg:Ih w G (aB a 1 ca) (aB b 1 cb)):
 Vf F n aC 170 #[cB (some ⟨Bg,0,none⟩)] encW (dA (fun k=>k=Bg∨k=G)) 4 w:=by
 intro l J Jx W hW hY h0;have b0:=(hB.below hW hB.lt).cell 0;obtain⟨m2,m3,m4,hG,-⟩:=hg.below hW;have g0:=hG.cell 0;have g1:=hG.cell 1;simp only[bJ,bD,List.getElem?_cons_succ]at b0 g0 g1;have hcB:∀V,dA (fun k=>k=Bg∨k=G) W V→V.cell? ⟨Bg,0,none⟩=some (cB (some ⟨G,0,none⟩))∧V.cell? ⟨G,0,none⟩=some (aB a 1 ca)∧V.cell? ⟨G,1,none⟩=some (aB b 1 cb):=fun V h=>
  ⟨(h.cell (p:=⟨Bg,0,none⟩) (.inl rfl)).trans b0,(h.cell (p:=⟨G,0,none⟩) (.inr rfl)).trans g0,(h.cell (p:=⟨G,1,none⟩) (.inr rfl)).trans g1⟩
 have HC:=zq hcB;clear hB hg hW hG hcB;refine callsIn_of_wp func170 rfl h7 ?_ Ig;simp only[ntmps170,gA,cO,eW,jX,jY,eR,eT,gC,fJ,iC,fX];gi_wp2;gi_loopw [11] (fun i wr=>(i=aF aG 0∧J 0 wr∨i=aF aG 1∧J 4 wr)∧dA (fun k=>k=Bg∨k=G) W wr) (fun i _=>1-(aK i).toNat);case atStart=>exact⟨.inl ⟨rfl,h0⟩,dA.refl _ _⟩
 case round=>
  obtain⟨(⟨rfl,hJ⟩|⟨rfl,hJ⟩),hS⟩:=hrel
  ·rename aE=>wo;obtain⟨c0,c1,c2⟩:=HC.out wo hS;clear b0 g0 g1;gi_wp2;gi_loopw [19] (fun i wr=>(i=aF aG 0∧J 0 wr∨i=aF aG 1∧J 4 wr)∧dA (fun k=>k=Bg∨k=G) W wr) (fun i _=>1-(aK i).toNat);case atStart=>exact⟨.inl ⟨rfl,hJ⟩,hS⟩
   case round=>
    obtain⟨(⟨rfl,hJ2⟩|⟨rfl,hJ2⟩),hS2⟩:=hrel
    ·gi_wp2;gi_loopw [22] (fun i wr=>(∃k:Nat,k≤4∧i=aF aG (k:Int)∧J k wr)∧dA (fun k=>k=Bg∨k=G) W wr) (fun i _=>4-(aK i).toNat);case atStart=>exact⟨⟨0,by omega,rfl,hJ2⟩,hS2⟩
     case round=>
      obtain⟨⟨k,hk,rfl,QO⟩,hS3⟩:=hrel;rename aE=>wi;by_cases hlt:k<4
      ·obtain⟨fn,tmps,assign,body,hy,hR⟩:=hY k wi hlt QO;have Xp:(k:Int)<4:=by omega
       gi_wp2;refine hR.mono ?_;rintro e W3 (⟨rfl,hJ4,Xp⟩|⟨rfl,hJx4⟩)
       ·gi_wp2;go_roundw;case rel=>exact⟨⟨k+1,by omega,by go_num,hJ4⟩,hS3.trans Xp⟩
        case measure=>simp only[aK];omega
       ·gi_wp2;refine bodyPost_ret (results_none rfl _ _ _) rfl ?_;exact⟨⟨_,rfl⟩,.inr ⟨k+1,by omega,hJx4⟩⟩
      ·obtain rfl:k=4:=by omega
       gi_wp2;go_roundw;case rel=>exact⟨.inr ⟨by go_num,QO⟩,hS3⟩
       case measure=>simp only[aK];omega
    ·gi_wp2;go_roundw;case rel=>exact⟨.inr ⟨by go_num,hJ2⟩,hS2⟩
     case measure=>simp only[aK];omega
  ·gi_wp2;go_end0;exact⟨⟨_,rfl⟩,.inl hJ⟩
theorem ways_in(G:Nat)(w:aE):
 aQ aC 109 #[cB (some ⟨G,0,none⟩)] w fun e w'=>e=aO (.func (.func 170) #[] #[cB (some ⟨w.heap.size,0,none⟩)])∧w'=w.alloc (aL #[cB (some ⟨G,0,none⟩)] 86):=by
 go_enter func109,ntmps109;go_wp2;go_ret;exact⟨rfl,rfl⟩
theorem VM(G:Nat)(a b:Option dE)(ca cb:Nat)(w:aE)(hg:Ih w G (aB a 1 ca) (aB b 1 cb)):
 aQ aC 58 #[cB (some ⟨G,0,none⟩)] w (Rt (aB none 0 0) w):=by
 have mj:= @run_makeMap aC
 obtain⟨W0,iU⟩:∃W,(((w.alloc (aL #[cB (some ⟨G,0,none⟩)] 86)).alloc (.map #[] 0)).alloc (aL #[.map (some (w.heap.size+1))] 141)).alloc (aL #[aB none 0 0] 23)=W:=⟨_,rfl⟩
 have fP:aJ w.heap.size w W0:=by rw[←iU];exact((((aI _ _).alloc (aD _) _).alloc (by simp) _).alloc (by simp <;>omega) _).alloc (by simp <;>omega) _
 have q0:bZ W0 w.heap.size #[cB (some ⟨G,0,none⟩)] 86:=by rw[←iU];exact(((bZ.new w _ _).alloc _).alloc _).alloc _
 have qm:W0.heap[w.heap.size+1]? =some (.map #[] 0):=by
  rw[←iU]
  have e1:=heap_alloc_new (w.alloc (aL #[cB (some ⟨G,0,none⟩)] 86)) (.map #[] 0)
  rw[aS]at e1
  refine(Kr _ _ _ (by simp <;>omega)).trans ((Kr _ _ _ (by simp)).trans e1)
 have q2:bZ W0 (w.heap.size+1+1) #[.map (some (w.heap.size+1))] 141:=by
  rw[←iU]
  have:=(bZ.new ((w.alloc (aL #[cB (some ⟨G,0,none⟩)] 86)).alloc (.map #[] 0)) #[.map (some (w.heap.size+1))] 141).alloc (aL #[aB none 0 0] 23)
  rwa[aS,aS]at this
 have q3:bZ W0 (w.heap.size+1+1+1) #[aB none 0 0] 23:=by
  rw[←iU]
  have:=bZ.new (((w.alloc (aL #[cB (some ⟨G,0,none⟩)] 86)).alloc (.map #[] 0)).alloc (aL #[.map (some (w.heap.size+1))] 141)) #[aB none 0 0] 23
  rwa[aS,aS,aS]at this
 have HG:=zq (hg.below fP)
 have mE:=zq fP
 have mg:=zq q0
 have HQm:=zq qm
 have bm:=zq q2
 have HQ3:=zq q3
 clear hg fP qm q2 q3
 refine jT func58 rfl ?_
 simp only[ntmps58,gA,cO,eW,jX,jY,eR,eT,gC,fJ,iC,fX]
 go_upto_region 3 with(fail)
 try rw[iU]
 clear iU
 have b1:=q0.cell 0
 simp only[bJ,bD]at b1
 clear q0
 go_wp2_with fail
 refine(ways_in G W0).mono ?_
 rintro e W1⟨rfl,tn⟩
 have hb1:aJ W0.heap.size W0 W1:=by rw[tn];exact(aI _ _).alloc (aD _) _
 have rO:aY (bZ W1 W0.heap.size #[cB (some ⟨G,0,none⟩)] 86):=by rw[tn];exact bZ.new _ _ _
 have tq:=zq (HG.out.below hb1)
 have fK:=zq (aT mE.out hb1)
 have mg:=zq (mg.out.below hb1 mg.out.lt)
 have HQm:=zq ((hb1.block _ (Array.getElem?_eq_some_iff.1 HQm.out).1).trans HQm.out)
 have bm:=zq (bm.out.below hb1 bm.out.lt)
 have HQ3:=zq (HQ3.out.below hb1 HQ3.out.lt)
 clear hb1 tn HG b1
 generalize W0.heap.size=Bw at *
 go_wp2_with fail
 have hltk:∀k,(k=Bw∨k=G)→k<W1.heap.size:=fun k h=>h.elim (fun e=>by rw[e];exact rO.out.lt) (fun e=>by rw[e];obtain⟨_,_,_,h,-⟩:=tq.out;exact h.lt)
 refine VL (gf:=170) (lb:= #[cB (some ⟨Bw,0,none⟩)]) rfl (enters_of func170 (by kernel_rfl) rfl)
  (mm Fence.wide 8 trivial rfl (by decide) Bw G a b ca cb W1 rO.out tq.out) dA.trans (dA.putObj hltk) (fun _=>rfl)
  (fun _ W=>aJ W1.heap.size W1 W) (fun _ _ _=>False)
  (Bi (aD _) (aD _)) (fun c _ _ _ _ hs _ _=>hs) (aI _ _)
  (fun a' k W=>(∃q,a'={tmps:= #[cB (some ⟨G,0,none⟩),cB (some ⟨w.heap.size,0,none⟩),aB none 0 0,cB (some ⟨w.heap.size+1+1,0,none⟩),cB (some ⟨w.heap.size+1+1+1,0,none⟩),cB (some ⟨q,0,none⟩),iZ,iZ,.map (some (w.heap.size+1)),cB (some ⟨G,0,none⟩),.func (.func 170) #[] #[cB (some ⟨Bw,0,none⟩)],dM #[aF aG 0,aF aG 0,aF aG k],iZ,iZ,iZ,iZ,iZ,iZ,iZ,iZ,iZ,iZ,iZ,iZ,iZ,iZ,iZ,iZ,iZ,iZ,iZ,iZ,iZ,iZ,iZ,iZ,iZ,iZ,iZ,iZ,iZ,iZ,iZ],defers:=[]}∧bZ W q #[aF aG 0,aF aG 0,aF aG k] 148)∧aJ W1.heap.size W1 W)
  (fun a'=>tE (Own.from (fun s A B uJ hs hg hr=>by obtain⟨q,e,h⟩:=hs;exact⟨q,e,h.own hg hr⟩) _) (Bi (aD _) (aD _)))
  ?assign ?body ?done ?stop
 case assign=>
  intro l k W K hk hI hK
  obtain⟨V,hV⟩:∃V,W.alloc (aL #[aF aG 0,aF aG 0,aF aG k] 148)=V:=⟨_,rfl⟩
  have hb:aJ W.heap.size W V:=by rw[←hV];exact(aI _ _).alloc (aD _) _
  have HN:aY (bZ V W.heap.size #[aF aG 0,aF aG 0,aF aG k] 148):=by rw[←hV];exact bZ.new _ _ _
  have HKf:=zq ((qB hb).from W1.heap.size)
  have HSa:aY (dA (fun k=>k=Bw∨k=G) W V):=dA.below hb (fun k h=>bQ (hltk k h) hI.size)
  have HBv:=zq (aT hI hb)
  clear hb hI
  gi_wp2
  generalize W.heap.size=q at *
  exact hK _ _ HKf.out HSa.out ⟨⟨q,rfl,HN.out⟩,HBv.out⟩
 case body=>
  rintro l k a' W hk⟨⟨q,rfl,hq⟩,hB⟩
  have Q7:k<4:=hk
  have HB:=zq hB
  have hm:=(hB.block _ (Array.getElem?_eq_some_iff.1 HQm.out).1).trans HQm.out
  have HL:=zp hm 0 0 k
  have b0:=(mg.out.below hB mg.out.lt).cell 0
  have b2:=(bm.out.below hB bm.out.lt).cell 0
  simp only[bJ,bD]at b0 b2
  obtain⟨e0,e1,e2⟩:=hq.three
  have Nn:=zq (S4 G (aB a 1 ca) (aB b 1 cb) k Q7 W (tq.out.below hB))
  clear hB hq hm
  gi_wp2_with fail
  refine⟨trivial,(Calls.round Nn.out _ _).mono ?_⟩
  rintro e W2⟨rfl,hb2⟩
  have Zz:=zq ((qB hb2).from W1.heap.size)
  have WP:aY (dA (fun k=>k=Bw∨k=G) W W2):=dA.below hb2 (fun k h=>bQ (hltk k h) HB.out.size)
  have gD:=zq (aT HB.out hb2)
  clear hb2
  gi_wp2
  exact⟨Zz.out,WP.out,gD.out⟩
 case done=>
  rintro D W hD hB hK
  have HB:=zq hB
  have HK:=zq hK
  have HD:=zq (Nat.le_trans fK.out.size hD)
  have b3:=(HQ3.out.below hB HQ3.out.lt).cell 0
  simp only[bJ,bD]at b3
  clear hB hK hD
  go_wp2
  refine⟨by simp,.inl ⟨_,_,rfl,run_takeDeferred HK.out,?_⟩⟩
  exact⟨_,results_tmp Tryz.results58 _ _ _,rfl,(aT fK.out HB.out).trans (iG HD.out HK.out)⟩
 case stop=>
  rintro D c k W hD hk h
  exact absurd h (fun h=>h)
end
end
section
open Go Go.RowKit Go.Lib
def sideBad(nf:Nat)(p:Pt):Bool:=decide (p.side<0)||decide ((nf:Int)≤p.side)
def EB(fs:List Fr)(p q:Pt):Int:=(nD (fs.getD q.side.toNat default)-nD (fs.getD p.side.toNat default)+4).tmod 4
def nK(fs:List Fr)(l:Lp)(i:Int):Bool×Int:=
 if fH fs [] [l]≠0 then(false,fH fs [] [l])else if i<0∨(l.ps.length:Int)≤i then(false,6)else
  if(sideBad fs.length (l.ps.getD ((i.toNat+l.ps.length-1)%l.ps.length) default)||sideBad fs.length (l.ps.getD i.toNat default))=true then(false,1)else
   if EB fs (l.ps.getD ((i.toNat+l.ps.length-1)%l.ps.length) default) (l.ps.getD i.toNat default)=2 then(false,1)
   else(decide (EB fs (l.ps.getD ((i.toNat+l.ps.length-1)%l.ps.length) default) (l.ps.getD i.toNat default)=3),0)
theorem PU(f:Fr):0≤nD f∧nD f≤3:=by
 unfold nD;cases f.up<;>by_cases h:0<f.dir<;>simp[h]
def PW(w W:aE)(g h:Nat)(pc qc:Array bB):Prop:=bZ W g pc 46∧bZ W h qc 46∧aJ w.heap.size w W
theorem PZ(w:aE)(pc qc:Array bB):PW w ((w.alloc (aL pc 46)).alloc (aL qc 46)).drew w.heap.size (w.heap.size+1) pc qc:=by
 refine⟨(bZ.new w _ _).alloc _,?_,(((aI _ w).alloc (aD _) _).alloc (by simp) _).drew⟩;have:=bZ.new (w.alloc (aL pc 46)) qc 46;rwa[aS]at this
theorem XH(w:aE)(pc qc:Array bB):PW w ((w.alloc (aL qc 46)).alloc (aL pc 46)).drew (w.heap.size+1) w.heap.size pc qc:=by
 obtain⟨a,b,c⟩:=PZ w qc pc;exact⟨b,a,c⟩
theorem VN (a b:Option dE) (nf n ca cb:Nat) (fs:List Fr) (ps:List Pt) (i:Int) (w:aE) (hE:eZ w)
 (hf:fs.length=nf) (hp:ps.length=n) (FK:nf≤1000000) (hn:n≤1000000) (pK:∀ f∈fs,f.sp.length≤30∧f.st.length≤30) (hi1: -9223372036854775808≤i) (hi2:i≤9223372036854775807)
 (rf:wP w a fs) (rp:Fg w b ps) :
 aQ aC 16 #[aB a nf ca,aB b n cb,aF aG i] w (Rt (.tuple #[aM (nK fs ⟨b,cb,ps⟩ i).1,aF aG (nK fs ⟨b,cb,ps⟩ i).2]) w):=by
 have fP:=(aI w.heap.size w).alloc (aD _) (aL #[aB b n cb] 38);have rl:zP (w.alloc (aL #[aB b n cb] 38)) (some ⟨w.heap.size,0,none⟩) [⟨b,cb,ps⟩]:=by
  intro j hj;have hj:j < 1:=hj;obtain rfl:j=0:=by omega
  refine⟨_,_,rfl, ?_,rp.below fP⟩;have:=(bZ.new w #[aB b n cb] 38).cell 0;rw [← hp] at this ⊢;exact this
 have HC:=zq (IJ a (some ⟨w.heap.size,0,none⟩) none nf 1 0 ca 1 0 fs [⟨b,cb,ps⟩] [] _ (hE.below fP) hf rfl rfl FK (by decide) (by decide) (fun f h=> by have:=pK f h;omega) (fun x hx=> absurd hx (by simp)) (fun l h=> by rw [gF] at h;subst h;show ps.length≤_;omega) (rf.below fP) rl (fun j hj=> absurd hj (by simp)));have HD:aY (fH fs [] [⟨b,cb,ps⟩]=0→∀ j,j < nf→∀ W,aQ aC 55 #[(fs.getD j default).v] W (Rt (aF aG (nD (fs.getD j default))) W)):=fun h j hj W=> by
  obtain⟨h1, -, -⟩:=DZ h;have hm:=cP (i:=j) (by rw [hf];exact hj) (default:Fr);exact Nk _ (Fr.Ok.dir ⟨h1 _ hm,(pK _ hm).1,(pK _ hm).2⟩) W
 have R0:aY (nK fs ⟨b,cb,ps⟩ i=if fH fs [] [⟨b,cb,ps⟩]≠0 then(false,fH fs [] [⟨b,cb,ps⟩]) else if i < 0∨(n:Int)≤i then(false,6) else
  if (sideBad nf (ps.getD ((i.toNat + n - 1) % n) default) || sideBad nf (ps.getD i.toNat default))=true then(false,1) else
   if EB fs (ps.getD ((i.toNat + n - 1) % n) default) (ps.getD i.toNat default)=2 then(false,1)
   else(decide (EB fs (ps.getD ((i.toNat + n - 1) % n) default) (ps.getD i.toNat default)=3),0)):=by
  show _=_;unfold nK;rw [hf,hp]
 have Rf:=zq rf;have Rp:=zq rp;have Hf:=zq hf;have Hp:=zq hp;have mE:=zq fP;clear hE hf hp pK rf rp fP rl;generalize nK fs ⟨b,cb,ps⟩ i=RR at *;generalize fH fs [] [⟨b,cb,ps⟩]=c at *;by_cases h0:c=0;case neg=>
  rw [ip h0] at R0;have h' :(c !=0)=true:=by rw [bne_iff_ne];exact h0
  clear h0 HD;go_enter KR,Ji;go_wp2_with fail
  refine HC.out.mono ?_;rintro e W1 ⟨rfl,hb1⟩;go_wp2;go_ret2;exact⟨by rw [R0.out] <;> rfl,aT mE.out hb1⟩
 case pos=>
 subst h0;rw [iN (by decide)] at R0;have mn:=zq (HD.out rfl);clear HD;by_cases hir:i < 0∨(n:Int)≤i
 ·rw [ip hir] at R0;rcases OI i 0 with h1 | h1;case inr=>
   have h2:(n:Int)≤i:=by omega
   clear hir mn;go_enter KR,Ji;go_wp2_with fail
   refine HC.out.mono ?_;rintro e W1 ⟨rfl,hb1⟩;go_wp2;go_ret2;exact⟨by rw [R0.out] <;> rfl,aT mE.out hb1⟩
  case inl=>
   clear hir mn;go_enter KR,Ji;go_wp2_with fail
   refine HC.out.mono ?_;rintro e W1 ⟨rfl,hb1⟩;go_wp2;go_ret2;exact⟨by rw [R0.out] <;> rfl,aT mE.out hb1⟩
 ·rw [iN hir] at R0;obtain⟨m,rfl⟩:∃ m:Nat,i=m:=⟨i.toNat,by omega⟩;have hmn:m < n:=by omega
  rw [show((m:Int)).toNat=m from rfl] at R0;have hkn:(m + n - 1) % n < n:=fW _ (by omega);have s3:((m:Int) + (n:Int) - 1).tmod (n:Int)=(((m + n - 1) % n:Nat):Int):=by
   rw [sT (by omega)];rw [show(m:Int) + (n:Int) - 1=((m + n - 1:Nat):Int) by omega];rfl
  generalize (m + n - 1) % n=k at *;have s1:IntKind.i64.wrap ((m:Int) + (n:Int))=(m:Int) + (n:Int):=aP _ (by omega);have s2:IntKind.i64.wrap ((m:Int) + (n:Int) - 1)=(m:Int) + (n:Int) - 1:=aP _ (by omega);have S3:=zq (And.intro s1 (And.intro s2 s3));clear s1 s2 s3 hir;go_enter KR,Ji;go_wp2_with fail
  refine HC.out.mono ?_;rintro e W1 ⟨rfl,hb1⟩;have fK:=zq (aT mE.out hb1);clear hb1 HC mE;obtain⟨pb,po,rfl,c0,c1,c2⟩:=(Rp.out.below fK.out).at (i:=k) (by rw [Hp.out];exact hkn) rfl;obtain⟨pb',po',e1,d0,d1,d2⟩:=(Rp.out.below fK.out).at (i:=m) (by rw [Hp.out];exact hmn) rfl;injection e1 with e1;injection e1 with e1 e2;subst e1 e2;generalize ps.getD k default=p at *;generalize ps.getD m default=q at *;have lb:pb < W1.heap.size:=bF W1 ⟨pb,po + k * 3,none⟩ c0;have v1:∀ j,pb < W1.heap.size + j:=fun j=> by omega
  have v2:∀ j,¬ pb=W1.heap.size + j:=fun j=> by omega
  have v3:¬ pb=W1.heap.size:=by omega
  have hki:(k:Int) < (n:Int):=by omega
  have hk0:(0:Int)≤(k:Int):=by omega
  have Gf:¬ n=0:=by omega
  obtain⟨s1,s2,s3⟩:=S3.out;go_wp2;go_cut [9,10] (fun x y W=> ∃ g h:Nat,x=cB (some ⟨g,0,none⟩)∧y=cB (some ⟨h,0,none⟩)∧aY (PW W1 W g h (#[aF aG p.side,aA (bs p.fr),aA (bs p.en)]) (#[aF aG q.side,aA (bs q.fr),aA (bs q.en)])));case first=>
   go_region;all_goals
    go_wp2;go_meet;case rel=> first | exact⟨_,_,rfl,rfl,PZ _ _ _⟩ | exact⟨_,_,rfl,rfl,XH _ _ _⟩
  case rest=>
  obtain⟨g',h',rfl,rfl,HJ⟩:=hcut;have gD:=zq (aT fK.out HJ.out.2.2);obtain⟨p0,p1,p2⟩:=HJ.out.1.three;obtain⟨q0,q1,q2⟩:=HJ.out.2.1.three;clear s1 s2 s3 v1 v2 v3 lb c0 c1 c2 d0 d1 d2 HJ fK;obtain⟨QS,pfr,pen⟩:=p;obtain⟨QU,qfr,qen⟩:=q;simp only [] at *;have GM:aY ((QS < 0∨(nf:Int)≤QS∨QU < 0∨(nf:Int)≤QU)→RR=(false,1)):=fun h=> by
   rw [R0.out,ip];unfold sideBad;simp only [iB,decide_eq_true_eq];omega
  generalize bs pfr=PF at *;generalize bs pen=PE at *;generalize bs qfr=QF at *;generalize bs qen=QE at *;by_cases g1:QS < 0
  ·have R:=zq (GM.out (.inl g1));go_wp2;go_ret2;exact⟨by rw [R.out] <;> rfl,gD.out⟩
  by_cases g2:(nf:Int)≤QS
  ·have R:=zq (GM.out (.inr (.inl g2)));go_wp2;go_ret2;exact⟨by rw [R.out] <;> rfl,gD.out⟩
  by_cases g3:QU < 0
  ·have R:=zq (GM.out (.inr (.inr (.inl g3))));go_wp2;go_ret2;exact⟨by rw [R.out] <;> rfl,gD.out⟩
  by_cases g4:(nf:Int)≤QU
  ·have R:=zq (GM.out (.inr (.inr (.inr g4))));go_wp2;go_ret2;exact⟨by rw [R.out] <;> rfl,gD.out⟩
  obtain⟨s,rfl⟩:∃ s:Nat,QS=s:=⟨QS.toNat,by omega⟩;obtain⟨t,rfl⟩:∃ t:Nat,QU=t:=⟨QU.toNat,by omega⟩;have BQ:s < nf:=by omega
  have QP:t < nf:=by omega
  have Gu:¬ (sideBad nf ⟨(s:Int),pfr,pen⟩ || sideBad nf ⟨(t:Int),qfr,qen⟩)=true:=by
   unfold sideBad;simp only [iB,decide_eq_true_eq];omega
  rw [iN Gu] at R0;have HT:aY (EB fs ⟨(s:Int),pfr,pen⟩ ⟨(t:Int),qfr,qen⟩=(nD (fs.getD t default) - nD (fs.getD s default) + 4).tmod 4):=rfl;have Fb:=zq (mn.out t QP);have Ew:=zq (mn.out s BQ);obtain⟨fb,fo,rfl,f0,f1,f2,f3,f4⟩:=(Rf.out.below gD.out).at (i:=t) (by rw [Hf.out];exact QP) rfl;obtain⟨fb',fo',e1,e0,e1',e2,e3,e4⟩:=(Rf.out.below gD.out).at (i:=s) (by rw [Hf.out];exact BQ) rfl;injection e1 with e1;injection e1 with h1 h2;subst h1 h2;clear g1 g2 g3 g4 Gu GM mn;generalize EB fs ⟨(s:Int),pfr,pen⟩ ⟨(t:Int),qfr,qen⟩=TR at *;generalize fs.getD t default=f at *;generalize fs.getD s default=g at *;have b1:=PU f;have b2:=PU g;generalize nD f=D1 at *;generalize nD g=D2 at *;unfold Fr.v Fr.cells at Fb Ew;obtain⟨uM,yX,kX,DX,KI⟩:=f;obtain⟨Fi,PL,Au,kw,lf⟩:=g;simp only [] at *;generalize bs DX=FSP at *;generalize bs KI=FST at *;generalize bs kw=GSP at *;generalize bs lf=GST at *;have w1:IntKind.i64.wrap (D1 - D2)=D1 - D2:=aP _ (by omega);have w2:IntKind.i64.wrap (D1 - D2 + 4)=D1 - D2 + 4:=aP _ (by omega);have w3:(D1 - D2 + 4).tmod 4=TR:=HT.out.symm;go_wp2;go_cut [11] (fun v W=> v=aF aG TR∧aY (aJ wc.heap.size wc W));case first=>
   go_region_held3 (fun w' => (w'.cell? ⟨g',0,none⟩=some (aF aG s)∧w'.cell? ⟨g',1,none⟩=some (aA PF)∧w'.cell? ⟨g',2,none⟩=some (aA PE))∧(w'.cell? ⟨h',0,none⟩=some (aF aG t)∧w'.cell? ⟨h',1,none⟩=some (aA QF)∧w'.cell? ⟨h',2,none⟩=some (aA QE))∧w'.cell? ⟨fb,fo + t * 5,none⟩=some (aM uM)∧w'.cell? ⟨fb,fo + t * 5 + 1,none⟩=some (aF aG yX)∧w'.cell? ⟨fb,fo + t * 5 + 2,none⟩=some (aF aG kX)∧w'.cell? ⟨fb,fo + t * 5 + 3,none⟩=some (aA FSP)∧w'.cell? ⟨fb,fo + t * 5 + 4,none⟩=some (aA FST)∧w'.cell? ⟨fb,fo + s * 5,none⟩=some (aM Fi)∧w'.cell? ⟨fb,fo + s * 5 + 1,none⟩=some (aF aG PL)∧w'.cell? ⟨fb,fo + s * 5 + 2,none⟩=some (aF aG Au)∧w'.cell? ⟨fb,fo + s * 5 + 3,none⟩=some (aA GSP)∧w'.cell? ⟨fb,fo + s * 5 + 4,none⟩=some (aA GST)) (go_keep)
    (first
     | (go_at_call 55;with_reducible refine(Fb.out _).mono ?_;rintro e w1' ⟨rfl,hb1⟩;have hBt:=zq (aT (by first | exact hBs.out | exact(aI _ wc).drew) hb1);have:=ck hb1 g' 0 (aF aG s);have:=ck hb1 g' 1 (aA PF);have:=ck hb1 g' 2 (aA PE);have:=ck hb1 h' 0 (aF aG t);have:=ck hb1 h' 1 (aA QF);have:=ck hb1 h' 2 (aA QE);have m0:=bV hb1 (p:=⟨fb,fo + t * 5,none⟩) (v:=aM uM) (by simp [*]);have m1:=bV hb1 (p:=⟨fb,fo + t * 5 + 1,none⟩) (v:=aF aG yX) (by simp [*]);have m2:=bV hb1 (p:=⟨fb,fo + t * 5 + 2,none⟩) (v:=aF aG kX) (by simp [*]);have m3:=bV hb1 (p:=⟨fb,fo + t * 5 + 3,none⟩) (v:=aA FSP) (by simp [*]);have m4:=bV hb1 (p:=⟨fb,fo + t * 5 + 4,none⟩) (v:=aA FST) (by simp [*]);have m5:=bV hb1 (p:=⟨fb,fo + s * 5,none⟩) (v:=aM Fi) (by simp [*]);have m6:=bV hb1 (p:=⟨fb,fo + s * 5 + 1,none⟩) (v:=aF aG PL) (by simp [*]);have m7:=bV hb1 (p:=⟨fb,fo + s * 5 + 2,none⟩) (v:=aF aG Au) (by simp [*]);have m8:=bV hb1 (p:=⟨fb,fo + s * 5 + 3,none⟩) (v:=aA GSP) (by simp [*]);have m9:=bV hb1 (p:=⟨fb,fo + s * 5 + 4,none⟩) (v:=aA GST) (by simp [*]))
     | (go_at_call 55;with_reducible refine(Ew.out _).mono ?_;rintro e w1' ⟨rfl,hb1⟩;have hBs:=zq (aT (by first | exact hBt.out | exact(aI _ wc).drew) hb1);have:=ck hb1 g' 0 (aF aG s);have:=ck hb1 g' 1 (aA PF);have:=ck hb1 g' 2 (aA PE);have:=ck hb1 h' 0 (aF aG t);have:=ck hb1 h' 1 (aA QF);have:=ck hb1 h' 2 (aA QE);have m0:=bV hb1 (p:=⟨fb,fo + t * 5,none⟩) (v:=aM uM) (by simp [*]);have m1:=bV hb1 (p:=⟨fb,fo + t * 5 + 1,none⟩) (v:=aF aG yX) (by simp [*]);have m2:=bV hb1 (p:=⟨fb,fo + t * 5 + 2,none⟩) (v:=aF aG kX) (by simp [*]);have m3:=bV hb1 (p:=⟨fb,fo + t * 5 + 3,none⟩) (v:=aA FSP) (by simp [*]);have m4:=bV hb1 (p:=⟨fb,fo + t * 5 + 4,none⟩) (v:=aA FST) (by simp [*]);have m5:=bV hb1 (p:=⟨fb,fo + s * 5,none⟩) (v:=aM Fi) (by simp [*]);have m6:=bV hb1 (p:=⟨fb,fo + s * 5 + 1,none⟩) (v:=aF aG PL) (by simp [*]);have m7:=bV hb1 (p:=⟨fb,fo + s * 5 + 2,none⟩) (v:=aF aG Au) (by simp [*]);have m8:=bV hb1 (p:=⟨fb,fo + s * 5 + 3,none⟩) (v:=aA GSP) (by simp [*]);have m9:=bV hb1 (p:=⟨fb,fo + s * 5 + 4,none⟩) (v:=aA GST) (by simp [*])))
   all_goals
    go_wp2;go_meet;case rel=> exact⟨by first | rfl | (rw [w3];done),by first | exact hBs.out | exact hBt.out⟩
  case rest=>
  obtain⟨rfl,HB3⟩:=hcut;have Ad:=zq (aT gD.out HB3.out);clear w1 w2 w3 HT HB3 Fb Ew;by_cases t2:TR=2
  ·rw [ip t2] at R0;subst t2;go_wp2;go_ret2;exact⟨by rw [R0.out] <;> rfl,Ad.out⟩
  ·rw [iN t2] at R0;have t2' :(TR==2)=false:=by simpa using t2
   clear t2;by_cases t3:TR=3
   ·subst t3;go_wp2;go_ret2;exact⟨by rw [R0.out] <;> rfl,Ad.out⟩
   ·have t3' :(TR==3)=false:=by simpa using t3
    rw [decide_eq_false t3] at R0;clear t3;go_wp2;go_ret2;exact⟨by rw [R0.out] <;> rfl,Ad.out⟩
theorem ZA (a b:Option dE) (nf n ca cb:Nat) (fs:List Fr) (ps:List Pt) (i:Int) (w:aE) (hE:eZ w)
 (hf:fs.length=nf) (hp:ps.length=n) (FK:nf≤1000000) (hn:n≤1000000) (pK:∀ f∈fs,f.sp.length≤30∧f.st.length≤30) (hi1: -9223372036854775808≤i) (hi2:i≤9223372036854775807)
 (rf:wP w a fs) (rp:Fg w b ps) :
 aQ aC 15 #[aB a nf ca,aB b n cb,aF aG i] w (Rt (.tuple #[aM (nK fs ⟨b,cb,ps⟩ i).1,aF aG (nK fs ⟨b,cb,ps⟩ i).2]) w):=by
 have fP:=(aI w.heap.size w).alloc (aD _) (aL #[aB b n cb] 38);have rl:zP (w.alloc (aL #[aB b n cb] 38)) (some ⟨w.heap.size,0,none⟩) [⟨b,cb,ps⟩]:=by
  intro j hj;have hj:j < 1:=hj;obtain rfl:j=0:=by omega
  refine⟨_,_,rfl, ?_,rp.below fP⟩;have:=(bZ.new w #[aB b n cb] 38).cell 0;rw [← hp] at this ⊢;exact this
 have HC:=zq (uC a (some ⟨w.heap.size,0,none⟩) none nf 1 0 ca 1 0 fs [⟨b,cb,ps⟩] [] _ (hE.below fP) hf rfl rfl FK (by decide) (by decide) pK (fun x hx=> absurd hx (by simp)) (fun l h=> by rw [gF] at h;subst h;show ps.length≤_;omega) (rf.below fP) rl (fun j hj=> absurd hj (by simp)));have HD:aY (fH fs [] [⟨b,cb,ps⟩]=0→∀ j,j < nf→∀ W,aQ aC 45 #[(fs.getD j default).v] W (Rt (aF aG (nD (fs.getD j default))) W)):=fun h j hj W=> by
  exact qL _ W
 have R0:aY (nK fs ⟨b,cb,ps⟩ i=if fH fs [] [⟨b,cb,ps⟩]≠0 then(false,fH fs [] [⟨b,cb,ps⟩]) else if i < 0∨(n:Int)≤i then(false,6) else
  if (sideBad nf (ps.getD ((i.toNat + n - 1) % n) default) || sideBad nf (ps.getD i.toNat default))=true then(false,1) else
   if EB fs (ps.getD ((i.toNat + n - 1) % n) default) (ps.getD i.toNat default)=2 then(false,1)
   else(decide (EB fs (ps.getD ((i.toNat + n - 1) % n) default) (ps.getD i.toNat default)=3),0)):=by
  show _=_;unfold nK;rw [hf,hp]
 have Rf:=zq rf;have Rp:=zq rp;have Hf:=zq hf;have Hp:=zq hp;have mE:=zq fP;clear hE hf hp pK rf rp fP rl;unfold PK at HC;generalize nK fs ⟨b,cb,ps⟩ i=RR at *;generalize fH fs [] [⟨b,cb,ps⟩]=c at *;by_cases h0:c=0;case neg=>
  rw [ip h0] at R0;have h' :(c !=0)=true:=by rw [bne_iff_ne];exact h0
  clear h0 HD;go_enter KS,Jj;go_wp2_with fail
  refine HC.out.mono ?_;rintro e W1 ⟨⟨a1,n1,k1,a2,n2,k2,rfl, -⟩,hb1⟩;go_wp2;go_ret2;exact⟨by rw [R0.out] <;> rfl,(aT mE.out hb1).alloc (aT mE.out hb1).size _⟩
 case pos=>
 subst h0;rw [iN (by decide)] at R0;have mn:=zq (HD.out rfl);clear HD;by_cases hir:i < 0∨(n:Int)≤i
 ·rw [ip hir] at R0;rcases OI i 0 with h1 | h1;case inr=>
   have h2:(n:Int)≤i:=by omega
   clear hir mn;go_enter KS,Jj;go_wp2_with fail
   refine HC.out.mono ?_;rintro e W1 ⟨⟨a1,n1,k1,a2,n2,k2,rfl, -⟩,hb1⟩;go_wp2;go_ret2;exact⟨by rw [R0.out] <;> rfl,(aT mE.out hb1).alloc (aT mE.out hb1).size _⟩
  case inl=>
   clear hir mn;go_enter KS,Jj;go_wp2_with fail
   refine HC.out.mono ?_;rintro e W1 ⟨⟨a1,n1,k1,a2,n2,k2,rfl, -⟩,hb1⟩;go_wp2;go_ret2;exact⟨by rw [R0.out] <;> rfl,(aT mE.out hb1).alloc (aT mE.out hb1).size _⟩
 ·rw [iN hir] at R0;obtain⟨m,rfl⟩:∃ m:Nat,i=m:=⟨i.toNat,by omega⟩;have hmn:m < n:=by omega
  rw [show((m:Int)).toNat=m from rfl] at R0;have hkn:(m + n - 1) % n < n:=fW _ (by omega);have s3:((m:Int) + (n:Int) - 1).tmod (n:Int)=(((m + n - 1) % n:Nat):Int):=by
   rw [sT (by omega)];rw [show(m:Int) + (n:Int) - 1=((m + n - 1:Nat):Int) by omega];rfl
  generalize (m + n - 1) % n=k at *;have s1:IntKind.i64.wrap ((m:Int) + (n:Int))=(m:Int) + (n:Int):=aP _ (by omega);have s2:IntKind.i64.wrap ((m:Int) + (n:Int) - 1)=(m:Int) + (n:Int) - 1:=aP _ (by omega);have S3:=zq (And.intro s1 (And.intro s2 s3));clear s1 s2 s3 hir;go_enter KS,Jj;go_wp2_with fail
  refine HC.out.mono ?_;rintro e W1 ⟨⟨a1,n1,k1,a2,n2,k2,rfl, -⟩,hb1⟩;have HBq:=zq (aT mE.out hb1);have fK:=zq (HBq.out.alloc HBq.out.size (aL #[aB a1 n1 k1,aB a2 n2 k2] 58));obtain⟨WB,hWB⟩:∃ W,W1.alloc (aL #[aB a1 n1 k1,aB a2 n2 k2] 58)=W:=⟨_,rfl⟩;rw [hWB] at fK;have HWB:=zq hWB;clear hb1 HC mE HBq hWB;obtain⟨pb,po,rfl,c0,c1,c2⟩:=(Rp.out.below fK.out).at (i:=k) (by rw [Hp.out];exact hkn) rfl;obtain⟨pb',po',e1,d0,d1,d2⟩:=(Rp.out.below fK.out).at (i:=m) (by rw [Hp.out];exact hmn) rfl;injection e1 with e1;injection e1 with e1 e2;subst e1 e2;generalize ps.getD k default=p at *;generalize ps.getD m default=q at *;have lb:pb < WB.heap.size:=bF WB ⟨pb,po + k * 3,none⟩ c0;have v1:∀ j,pb < WB.heap.size + j:=fun j=> by omega
  have v2:∀ j,¬ pb=WB.heap.size + j:=fun j=> by omega
  have v3:¬ pb=WB.heap.size:=by omega
  have hki:(k:Int) < (n:Int):=by omega
  have hk0:(0:Int)≤(k:Int):=by omega
  have Gf:¬ n=0:=by omega
  obtain⟨s1,s2,s3⟩:=S3.out;go_upto_region 6 with fail
  rw [HWB.out];go_cut [10,11] (fun x y W=> ∃ g h:Nat,x=cB (some ⟨g,0,none⟩)∧y=cB (some ⟨h,0,none⟩)∧aY (PW WB W g h (#[aF aG p.side,aA (bs p.fr),aA (bs p.en)]) (#[aF aG q.side,aA (bs q.fr),aA (bs q.en)])));case first=>
   go_region;all_goals
    go_wp2;go_meet;case rel=> first | exact⟨_,_,rfl,rfl,PZ _ _ _⟩ | exact⟨_,_,rfl,rfl,XH _ _ _⟩
  case rest=>
  obtain⟨g',h',rfl,rfl,HJ⟩:=hcut;have gD:=zq (aT fK.out HJ.out.2.2);obtain⟨p0,p1,p2⟩:=HJ.out.1.three;obtain⟨q0,q1,q2⟩:=HJ.out.2.1.three;clear s1 s2 s3 v1 v2 v3 lb c0 c1 c2 d0 d1 d2 HJ fK;obtain⟨QS,pfr,pen⟩:=p;obtain⟨QU,qfr,qen⟩:=q;simp only [] at *;have GM:aY ((QS < 0∨(nf:Int)≤QS∨QU < 0∨(nf:Int)≤QU)→RR=(false,1)):=fun h=> by
   rw [R0.out,ip];unfold sideBad;simp only [iB,decide_eq_true_eq];omega
  generalize bs pfr=PF at *;generalize bs pen=PE at *;generalize bs qfr=QF at *;generalize bs qen=QE at *;rename aE=> wc;go_wp2;go_loopw [53] (fun i wr=> ∃ k:Nat,i=aF aG k∧k≤2∧(1≤k→0≤QS∧QS < (nf:Int))∧(2≤k→0≤QU∧QU < (nf:Int))∧aY (aJ wc.heap.size wc wr)) (fun i _=> 2 - (aK i).toNat);case atStart=> exact⟨0,rfl,by omega,by omega,by omega,aI _ _⟩
  case round=>
  obtain⟨k2,rfl,UN,pJ,pO,Km⟩:=hrel;by_cases hk3:k2 < 2
  ·have hI0:∀ W,Az aC (nA 84 (dM #[aF aG QS,aF aG QU]) (aF aG 0)) W= .ok (aF aG QS) W:=fun W=> by first | kernel_rfl | rfl
   have hI1:∀ W,Az aC (nA 84 (dM #[aF aG QS,aF aG QU]) (aF aG 1)) W= .ok (aF aG QU) W:=fun W=> by first | kernel_rfl | rfl
   obtain rfl | rfl:k2=0∨k2=1:=by omega
   ·by_cases g1:QS < 0
    ·have R:=zq (GM.out (.inl g1));go_wp2;go_ret2;exact⟨by rw [R.out] <;> rfl,aT gD.out Km.out⟩
    by_cases g2:(nf:Int)≤QS
    ·have R:=zq (GM.out (.inr (.inl g2)));go_wp2;go_ret2;exact⟨by rw [R.out] <;> rfl,aT gD.out Km.out⟩
    go_wp2;go_roundw;case rel=> exact⟨1,rfl,by omega,by omega,by omega,Km.out⟩
    case measure=> simp only [aK];omega
   ·by_cases g3:QU < 0
    ·have R:=zq (GM.out (.inr (.inr (.inl g3))));go_wp2;go_ret2;exact⟨by rw [R.out] <;> rfl,aT gD.out Km.out⟩
    by_cases g4:(nf:Int)≤QU
    ·have R:=zq (GM.out (.inr (.inr (.inr g4))));go_wp2;go_ret2;exact⟨by rw [R.out] <;> rfl,aT gD.out Km.out⟩
    go_wp2;go_roundw;case rel=> exact⟨2,rfl,by omega,by omega,by omega,Km.out⟩
    case measure=> simp only [aK];omega
  obtain rfl:k2=2:=by omega
  obtain⟨o1,o2⟩:=pJ (by omega);obtain⟨o3,o4⟩:=pO (by omega);have gD:=zq (aT gD.out Km.out);have p0:=bV Km.out p0;have p1:=bV Km.out p1;have p2:=bV Km.out p2;have q0:=bV Km.out q0;have q1:=bV Km.out q1;have q2:=bV Km.out q2;clear Km pJ pO hk3 UN;rename aE=> wc;obtain⟨s,rfl⟩:∃ s:Nat,QS=s:=⟨QS.toNat,by omega⟩;obtain⟨t,rfl⟩:∃ t:Nat,QU=t:=⟨QU.toNat,by omega⟩;have BQ:s < nf:=by omega
  have QP:t < nf:=by omega
  have Gu:¬ (sideBad nf ⟨(s:Int),pfr,pen⟩ || sideBad nf ⟨(t:Int),qfr,qen⟩)=true:=by
   unfold sideBad;simp only [iB,decide_eq_true_eq];omega
  rw [iN Gu] at R0;have HT:aY (EB fs ⟨(s:Int),pfr,pen⟩ ⟨(t:Int),qfr,qen⟩=(nD (fs.getD t default) - nD (fs.getD s default) + 4).tmod 4):=rfl;have Fb:=zq (mn.out t QP);have Ew:=zq (mn.out s BQ);obtain⟨fb,fo,rfl,f0,f1,f2,f3,f4⟩:=(Rf.out.below gD.out).at (i:=t) (by rw [Hf.out];exact QP) rfl;obtain⟨fb',fo',e1,e0,e1',e2,e3,e4⟩:=(Rf.out.below gD.out).at (i:=s) (by rw [Hf.out];exact BQ) rfl;injection e1 with e1;injection e1 with h1 h2;subst h1 h2;clear o1 o2 o3 o4 Gu GM mn;generalize EB fs ⟨(s:Int),pfr,pen⟩ ⟨(t:Int),qfr,qen⟩=TR at *;generalize fs.getD t default=f at *;generalize fs.getD s default=g at *;have b1:=PU f;have b2:=PU g;generalize nD f=D1 at *;generalize nD g=D2 at *;unfold Fr.v Fr.cells at Fb Ew;obtain⟨uM,yX,kX,DX,KI⟩:=f;obtain⟨Fi,PL,Au,kw,lf⟩:=g;simp only [] at *;generalize bs DX=FSP at *;generalize bs KI=FST at *;generalize bs kw=GSP at *;generalize bs lf=GST at *;have w1:IntKind.i64.wrap (D1 - D2)=D1 - D2:=aP _ (by omega);have w2:IntKind.i64.wrap (D1 - D2 + 4)=D1 - D2 + 4:=aP _ (by omega);have w3:(D1 - D2 + 4).tmod 4=TR:=HT.out.symm;go_wp2;go_cut [14] (fun v W=> v=aF aG TR∧aY (aJ wc.heap.size wc W));case first=>
   go_region_held3 (fun w' => (w'.cell? ⟨g',0,none⟩=some (aF aG s)∧w'.cell? ⟨g',1,none⟩=some (aA PF)∧w'.cell? ⟨g',2,none⟩=some (aA PE))∧(w'.cell? ⟨h',0,none⟩=some (aF aG t)∧w'.cell? ⟨h',1,none⟩=some (aA QF)∧w'.cell? ⟨h',2,none⟩=some (aA QE))∧w'.cell? ⟨fb,fo + t * 5,none⟩=some (aM uM)∧w'.cell? ⟨fb,fo + t * 5 + 1,none⟩=some (aF aG yX)∧w'.cell? ⟨fb,fo + t * 5 + 2,none⟩=some (aF aG kX)∧w'.cell? ⟨fb,fo + t * 5 + 3,none⟩=some (aA FSP)∧w'.cell? ⟨fb,fo + t * 5 + 4,none⟩=some (aA FST)∧w'.cell? ⟨fb,fo + s * 5,none⟩=some (aM Fi)∧w'.cell? ⟨fb,fo + s * 5 + 1,none⟩=some (aF aG PL)∧w'.cell? ⟨fb,fo + s * 5 + 2,none⟩=some (aF aG Au)∧w'.cell? ⟨fb,fo + s * 5 + 3,none⟩=some (aA GSP)∧w'.cell? ⟨fb,fo + s * 5 + 4,none⟩=some (aA GST)) (go_keep)
    (first
     | (go_at_call 45;with_reducible refine(Fb.out _).mono ?_;rintro e w1' ⟨rfl,hb1⟩;have hBt:=zq (aT (by first | exact hBs.out | exact(aI _ wc).drew) hb1);have:=ck hb1 g' 0 (aF aG s);have:=ck hb1 g' 1 (aA PF);have:=ck hb1 g' 2 (aA PE);have:=ck hb1 h' 0 (aF aG t);have:=ck hb1 h' 1 (aA QF);have:=ck hb1 h' 2 (aA QE);have m0:=bV hb1 (p:=⟨fb,fo + t * 5,none⟩) (v:=aM uM) (by simp [*]);have m1:=bV hb1 (p:=⟨fb,fo + t * 5 + 1,none⟩) (v:=aF aG yX) (by simp [*]);have m2:=bV hb1 (p:=⟨fb,fo + t * 5 + 2,none⟩) (v:=aF aG kX) (by simp [*]);have m3:=bV hb1 (p:=⟨fb,fo + t * 5 + 3,none⟩) (v:=aA FSP) (by simp [*]);have m4:=bV hb1 (p:=⟨fb,fo + t * 5 + 4,none⟩) (v:=aA FST) (by simp [*]);have m5:=bV hb1 (p:=⟨fb,fo + s * 5,none⟩) (v:=aM Fi) (by simp [*]);have m6:=bV hb1 (p:=⟨fb,fo + s * 5 + 1,none⟩) (v:=aF aG PL) (by simp [*]);have m7:=bV hb1 (p:=⟨fb,fo + s * 5 + 2,none⟩) (v:=aF aG Au) (by simp [*]);have m8:=bV hb1 (p:=⟨fb,fo + s * 5 + 3,none⟩) (v:=aA GSP) (by simp [*]);have m9:=bV hb1 (p:=⟨fb,fo + s * 5 + 4,none⟩) (v:=aA GST) (by simp [*]))
     | (go_at_call 45;with_reducible refine(Ew.out _).mono ?_;rintro e w1' ⟨rfl,hb1⟩;have hBs:=zq (aT (by first | exact hBt.out | exact(aI _ wc).drew) hb1);have:=ck hb1 g' 0 (aF aG s);have:=ck hb1 g' 1 (aA PF);have:=ck hb1 g' 2 (aA PE);have:=ck hb1 h' 0 (aF aG t);have:=ck hb1 h' 1 (aA QF);have:=ck hb1 h' 2 (aA QE);have m0:=bV hb1 (p:=⟨fb,fo + t * 5,none⟩) (v:=aM uM) (by simp [*]);have m1:=bV hb1 (p:=⟨fb,fo + t * 5 + 1,none⟩) (v:=aF aG yX) (by simp [*]);have m2:=bV hb1 (p:=⟨fb,fo + t * 5 + 2,none⟩) (v:=aF aG kX) (by simp [*]);have m3:=bV hb1 (p:=⟨fb,fo + t * 5 + 3,none⟩) (v:=aA FSP) (by simp [*]);have m4:=bV hb1 (p:=⟨fb,fo + t * 5 + 4,none⟩) (v:=aA FST) (by simp [*]);have m5:=bV hb1 (p:=⟨fb,fo + s * 5,none⟩) (v:=aM Fi) (by simp [*]);have m6:=bV hb1 (p:=⟨fb,fo + s * 5 + 1,none⟩) (v:=aF aG PL) (by simp [*]);have m7:=bV hb1 (p:=⟨fb,fo + s * 5 + 2,none⟩) (v:=aF aG Au) (by simp [*]);have m8:=bV hb1 (p:=⟨fb,fo + s * 5 + 3,none⟩) (v:=aA GSP) (by simp [*]);have m9:=bV hb1 (p:=⟨fb,fo + s * 5 + 4,none⟩) (v:=aA GST) (by simp [*])))
   all_goals
    go_wp2;go_meet;case rel=> exact⟨by first | rfl | (rw [w3];done),by first | exact hBs.out | exact hBt.out⟩
  case rest=>
  obtain⟨rfl,HB3⟩:=hcut;have Ad:=zq (aT gD.out HB3.out);clear w1 w2 w3 HT HB3 Fb Ew;by_cases t2:TR=2
  ·rw [ip t2] at R0;subst t2;go_wp2;go_ret2;exact⟨by rw [R0.out] <;> rfl,Ad.out⟩
  ·rw [iN t2] at R0;have t2' :(TR==2)=false:=by simpa using t2
   clear t2;by_cases t3:TR=3
   ·subst t3;go_wp2;go_ret2;exact⟨by rw [R0.out] <;> rfl,Ad.out⟩
   ·have t3' :(TR==3)=false:=by simpa using t3
    rw [decide_eq_false t3] at R0;clear t3;go_wp2;go_ret2;exact⟨by rw [R0.out] <;> rfl,Ad.out⟩
def qX(f:Fr):Bool:=decide (30<f.sp.length)||decide (30<f.st.length)
theorem ZB(f:Fr)(w:aE):
 aQ aC 17 #[f.v] w (Rt (aM (qX f)) w):=by
 obtain⟨up,co,dir,sp,st⟩:=f;have hB:=zq ((aI _ w).alloc (aD _) (aL #[aM up,aF aG co,aF aG dir,aA (bs sp),aA (bs st)] 44));have R:aY (qX ⟨up,co,dir,sp,st⟩=(decide (30<(bs sp).size)||decide (30<(bs st).size))):=by
  rw[bU,bU];rfl
 unfold Fr.v Fr.cells;simp only[];generalize qX ⟨up,co,dir,sp,st⟩=RR at *;generalize bs sp=SP at *;generalize bs st=ST at *;by_cases h1:30<SP.size
 ·rw[decide_eq_true h1,rP]at R;go_enter func17,ntmps17;go_wp2;go_ret;exact⟨by rw[R.out]<;>rfl,hB.out⟩
 ·have R2:aY (RR=(decide ((30:Int)<(SP.size:Int))||decide ((30:Int)<(ST.size:Int)))):=by
   show _=_;rw[R.out];congr 1
   ·exact decide_eq_decide.2 ⟨fun h=>by omega,fun h=>by omega⟩
   ·exact decide_eq_decide.2 ⟨fun h=>by omega,fun h=>by omega⟩
  clear R;go_enter func17,ntmps17;go_wp2;go_ret;exact⟨by rw[R2.out]<;>rfl,hB.out⟩
theorem eqPo(A B C D:ByteArray)(w:aE):(Jk 10000 56 (dM #[aA A,aA B]) (dM #[aA C,aA D])).run aC w=.ok (A.toList==C.toList&&B.toList==D.toList) w:=by
 have u3:=underlying9;have a3:=isAgg9;have z3:=sizeOf9;have hS:Tryz.prog.underlying 56=some (.struct (Tryz.prog.fieldsOf 56)):=by kernel_rfl
 have hp:Tryz.prog.stoodInHeld 56=false:=by kernel_rfl
 rw[show(10000:Nat)=9999+1 from rfl,run_equalIn_agg w 9999 56 _ _ hS hp];simp only[Ye,underlying56];go_simp;by_cases h1:A.toList=C.toList<;>by_cases h2:B.toList=D.toList<;>simp[h1,h2]
theorem eqPart (a c : Int) (A B C D : ByteArray) (w : aE) : (Jk 10000 46 (dM #[aF aG a, aA A, aA B]) (dM #[aF aG c, aA C, aA D])).run aC w = .ok (a == c && (A.toList == C.toList && B.toList == D.toList)) w := by
  have u3 := underlying3
  have a3 := isAgg3
  have z3 := sizeOf3
  have u4 := underlying24
  have a4 := isAgg24
  have z4 := sizeOf24
  have hS : Tryz.prog.underlying 46 = some (.struct (Tryz.prog.fieldsOf 46)) := by kernel_rfl
  have hp : Tryz.prog.stoodInHeld 46 = false := by kernel_rfl
  rw [show (10000 : Nat) = 9999 + 1 from rfl, run_equalIn_agg w 9999 46 _ _ hS hp]
  simp only [Ye, underlying46]
  go_simp
  by_cases h : a = c <;> by_cases h1 : A.toList = C.toList <;> by_cases h2 : B.toList = D.toList <;> simp [h, h1, h2]
deriving instance DecidableEq for Pt
def BV(xs ys:List Lp):Bool:=decide (xs.map Lp.ps=ys.map Lp.ps)
theorem VO{xs ys:List Lp}(h:xs.length≠ys.length):BV xs ys=false:=by
 apply decide_eq_false;intro e;have:=congrArg List.length e;rw[cG,cG]at this;exact h this
theorem ZC{xs ys:List Lp}{i:Nat}(h:(xs.getD i default).ps≠(ys.getD i default).ps):BV xs ys=false:=by
 apply decide_eq_false;intro e;apply h;have h1:∀zs:List Lp,(zs.getD i default).ps=(zs.map Lp.ps).getD i []:=fun zs=>by
  rw[aN,aN,List.getElem?_map];cases zs[i]? <;>rfl
 rw[h1,h1,e]
theorem VP{xs ys:List Lp}(h:xs.length=ys.length)(h2:∀i,i<xs.length→(xs.getD i default).ps=(ys.getD i default).ps):BV xs ys=true:=by
 apply decide_eq_true;apply Cp
 ·rw[cG,cG,h]
 ·intro i h3 h4;rw[cG]at h3 h4;have:=h2 i h3;simpa[aN,h3,h4]using this
theorem XI{xs ys:List Pt}(h:xs.length=ys.length)(h2:∀i,i<xs.length→xs.getD i default=ys.getD i default):xs=ys:=by
 apply Cp h;intro i h3 h4;have:=h2 i h3;simpa[aN,h3,h4]using this
theorem eqPt(p q:Pt)(w:aE):(Jk 10000 46 (dM #[aF aG p.side,aA (bs p.fr),aA (bs p.en)]) (dM #[aF aG q.side,aA (bs q.fr),aA (bs q.en)])).run aC w=.ok (decide (p=q)) w:=by
 rw[eqPart];obtain⟨a,x,y⟩:=p;obtain⟨c,z,t⟩:=q;show Result.ok (a==c&&((bs x).toList==(bs z).toList&&(bs y).toList==(bs t).toList)) w=_;simp only[cI,aX];congr 1;rw[Bool.eq_iff_iff];simp
theorem Np (a b:Option dE) (n m ca cb:Nat) (xs ys:List Lp) (w:aE) (hx:xs.length=n) (hy:ys.length=m) (hn:n≤1000000) (hm:m≤1000000)
 (rV:∀ l∈xs,l.ps.length≤1000000) (bw:∀ l∈ys,l.ps.length≤1000000) (ra:zP w a xs) (rb:zP w b ys) :
 aQ aC 14 #[aB a n ca,aB b m cb] w (Rt (aM (BV xs ys)) w):=by
 by_cases hnm:n=m;case neg=>
  have R:=zq (VO (xs:=xs) (ys:=ys) (by rw [hx,hy];exact hnm));have h' :(n==m)=false:=by simpa using hnm
  have hni:¬ ((n:Int)=(m:Int)):=by omega
  clear ra rb hx hy;go_enter func14,ntmps14;go_wp2;go_ret;exact⟨by rw [R.out] <;> rfl,aI _ w⟩
 subst hnm;have R2:aY (∀ i,(xs.getD i default).ps≠(ys.getD i default).ps→BV xs ys=false):=fun i h=> ZC h;have R3:aY ((∀ i,i < n→(xs.getD i default).ps=(ys.getD i default).ps)→BV xs ys=true):=fun h=> VP (by rw [hx,hy]) (by rw [hx];exact h);have Ra:=zq ra;have Rb:=zq rb;have Hx:=zq hx;have Hy:=zq hy;have SS:aY (∀ i,i < n→(xs.getD i default).ps.length≤1000000):=fun i hi=> rV _ (cP (by rw [hx];exact hi) default);have Hqs:aY (∀ i,i < n→(ys.getD i default).ps.length≤1000000):=fun i hi=> bw _ (cP (by rw [hy];exact hi) default);clear rV bw ra rb hx hy;generalize BV xs ys=RR at *;go_enter func14,ntmps14;go_wp2;go_loopw [5] (fun i wr=> ∃ k:Nat,i=aF aG k∧k≤n∧aY (∀ i,i < k→(xs.getD i default).ps=(ys.getD i default).ps)∧aY (aJ w.heap.size w wr)) (fun i _=> n - (aK i).toNat);case atStart=> exact⟨0,rfl,bR _,fun i h=> absurd h (Ib _),aI _ w⟩
 case round=>
  obtain⟨k,rfl,hk,HE,HB⟩:=hrel;by_cases hlt:k < n
  ·obtain⟨xb,xo,rfl,x0,rx⟩:=(Ra.out.below HB.out).at (i:=k) (by rw [Hx.out];exact hlt) rfl;obtain⟨yb,yo,rfl,y0,ry⟩:=(Rb.out.below HB.out).at (i:=k) (by rw [Hy.out];exact hlt) rfl;have Rx:=zq rx;have Ry:=zq ry;have hp:=SS.out k hlt;have hq:=Hqs.out k hlt;have Rk:=zq (R2.out k);have HEk:aY ((xs.getD k default).ps=(ys.getD k default).ps→∀ i,i < k + 1→(xs.getD i default).ps=(ys.getD i default).ps):=fun h i hi=> by
    rcases fC i k with h1 | h1
    ·exact HE.out i h1
    ·obtain rfl:i=k:=by omega
     exact h
   clear rx ry HE;generalize xs.getD k default=X at *;generalize ys.getD k default=Y at *;obtain⟨xa,xc,xp⟩:=X;obtain⟨ya,yc,yp⟩:=Y;simp only [] at *;obtain⟨p,UX⟩:∃ p,xp.length=p:=⟨_,rfl⟩;obtain⟨q,hql⟩:∃ q,yp.length=q:=⟨_,rfl⟩;rw [UX] at hp x0;rw [hql] at hq y0;have hki:(k:Int) < (n:Int):=by omega
   by_cases hpq:p=q;case neg=>
    have R:=zq (Rk.out (fun h=> hpq (by rw [← UX,← hql,h])));have h' :(p==q)=false:=by simpa using hpq
    have hni:¬ ((p:Int)=(q:Int)):=by omega
    clear UX hql;go_wp2;go_region;all_goals
     go_wp2;go_ret;exact⟨by rw [R.out] <;> rfl,HB.out.drew⟩
   subst hpq;have Hpl:=zq UX;have cd:=zq hql;clear UX hql;go_wp2;go_region;go_wp2;rename aE=> wo;go_loopw [6] (fun i wr=> ∃ j:Nat,i=aF aG j∧j≤p∧aY (∀ i,i < j→xp.getD i default=yp.getD i default)∧aY (aJ wo.heap.size wo wr)) (fun i _=> p - (aK i).toNat);case atStart=> exact⟨0,rfl,bR _,fun i h=> absurd h (Ib _),(aI _ wo).drew⟩
   case round=>
    obtain⟨j,rfl,hj,HEj,Ed⟩:=hrel;by_cases hjp:j < p
    ·obtain⟨pb,po,rfl,c0,c1,c2⟩:=(Rx.out.below Ed.out).at (i:=j) (by rw [Hpl.out];exact hjp) rfl;obtain⟨qb,qo,rfl,d0,d1,d2⟩:=(Ry.out.below Ed.out).at (i:=j) (by rw [cd.out];exact hjp) rfl;have x0' :=bV Ed.out x0;have y0' :=bV Ed.out y0;have hji:(j:Int) < (p:Int):=by omega
     by_cases hpt:xp.getD j default=yp.getD j default;case neg=>
      have R:=zq (Rk.out (fun h=> hpt (by rw [h])));have Q:∀ W,(Jk 10000 46 (dM #[aF aG (xp.getD j default).side,aA (bs (xp.getD j default).fr),aA (bs (xp.getD j default).en)]) (dM #[aF aG (yp.getD j default).side,aA (bs (yp.getD j default).fr),aA (bs (yp.getD j default).en)])).run aC W= .ok false W:=fun W=> by rw [eqPt,decide_eq_false hpt]
      clear hpt x0 y0;generalize xp.getD j default=P1 at *;generalize yp.getD j default=P2 at *;obtain⟨ps,pf,pe⟩:=P1;obtain⟨qs,qf,qe⟩:=P2;simp only [] at *;generalize bs pf=PF at *;generalize bs pe=PE at *;generalize bs qf=QF at *;generalize bs qe=QE at *;go_wp2;go_region;all_goals
       go_wp2;go_ret;exact⟨by rw [R.out] <;> rfl,(aT HB.out Ed.out).drew⟩
     have HEj2:aY (∀ i,i < j + 1→xp.getD i default=yp.getD i default):=fun i hi=> by
      rcases fC i j with h1 | h1
      ·exact HEj.out i h1
      ·obtain rfl:i=j:=by omega
       exact hpt
     have Q:∀ W,(Jk 10000 46 (dM #[aF aG (xp.getD j default).side,aA (bs (xp.getD j default).fr),aA (bs (xp.getD j default).en)]) (dM #[aF aG (yp.getD j default).side,aA (bs (yp.getD j default).fr),aA (bs (yp.getD j default).en)])).run aC W= .ok true W:=fun W=> by rw [eqPt,decide_eq_true hpt]
     clear hpt x0 y0 HEj;generalize xp.getD j default=P1 at *;generalize yp.getD j default=P2 at *;obtain⟨ps,pf,pe⟩:=P1;obtain⟨qs,qf,qe⟩:=P2;simp only [] at *;generalize bs pf=PF at *;generalize bs pe=PE at *;generalize bs qf=QF at *;generalize bs qe=QE at *;go_wp2;go_region;go_wp2;go_roundw;case rel=> exact⟨j + 1,rfl,by omega,HEj2.out,Ed.out.drew⟩
     case measure=> simp only [aK];omega
    ·obtain rfl:j=p:=by omega
     have x0' :=bV Ed.out x0;have ZD:=zq (HEk.out (XI (by rw [Hpl.out,cd.out]) (by rw [Hpl.out];exact HEj.out)));clear x0 y0 HEk HEj;go_wp2;go_roundw;case rel=> exact⟨k + 1,rfl,by omega,ZD.out,aT HB.out Ed.out⟩
     case measure=> simp only [aK];omega
  ·obtain rfl:k=n:=by omega
   have R:=zq (R3.out HE.out);go_wp2;go_ret;exact⟨by rw [R.out] <;> rfl,HB.out⟩
def Dh(p:Pt):Bool:=decide (24<p.fr.length)||decide (24<p.en.length)
def uW(l:Lp):Bool:=decide (12<l.ps.length)||anyN (fun j=>Dh (l.ps.getD j default)) l.ps.length
def oI(fs:List Fr)(ls:List Lp):Bool:=
 (decide (fs.length≤30)&&anyN (fun i=>qX (fs.getD i default)) fs.length)||(anyN (fun i=>uW (ls.getD i default)) ls.length||(decide (12<fs.length∧fs.length≤24)||(decide (30<fs.length)||decide (3<ls.length))))
theorem ZE{fs:List Fr}{ls:List Lp}{i:Nat}(hi:i<fs.length)(h:fs.length≤30)(hg:qX (fs.getD i default)=true):oI fs ls=true:=by
 unfold oI;rw[decide_eq_true h,kA.2 ⟨i,hi,hg⟩];rfl
theorem ZF{fs:List Fr}{ls:List Lp}{i:Nat}(hi:i<ls.length)(hg:uW (ls.getD i default)=true):oI fs ls=true:=by
 unfold oI;rw[kA.2 ⟨i,hi,hg⟩,rP,Dr]
theorem ZG{fs:List Fr}{ls:List Lp}(h1:fs.length≤30→anyN (fun i=>qX (fs.getD i default)) fs.length=false)(h2:anyN (fun i=>uW (ls.getD i default)) ls.length=false):
 oI fs ls=(decide (12<fs.length∧fs.length≤24)||(decide (30<fs.length)||decide (3<ls.length))):=by
 unfold oI;rw[h2,sE];by_cases h:fs.length≤30
 ·rw[h1 h,Bool.and_false,sE]
 ·rw[decide_eq_false h,Bool.false_and,sE]
theorem longL_1{l:Lp}(h:12<l.ps.length):uW l=true:=by unfold uW;rw[decide_eq_true h,rP]
theorem longL_2{l:Lp}{j:Nat}(hj:j<l.ps.length)(h:Dh (l.ps.getD j default)=true):uW l=true:=by unfold uW;rw[kA.2 ⟨j,hj,h⟩,Dr]
theorem longL_0{l:Lp}(h:¬12<l.ps.length)(h2:anyN (fun j=>Dh (l.ps.getD j default)) l.ps.length=false):uW l=false:=by unfold uW;rw[decide_eq_false h,h2];rfl
theorem ZH (a b:Option dE) (n m ca cb:Nat) (fs:List Fr) (ls:List Lp) (w:aE) (hf:fs.length=n) (hl:ls.length=m) (hn:n≤9223372036854775807) (hm:m≤9223372036854775807)
    (rf:wP w a fs) (rl:zP w b ls) :
    aQ aC 4 #[aB a n ca,aB b m cb] w (Rt (aM (oI fs ls)) w):=by
  have HG:aY (∀ i,i < n→∀ W,aQ aC 17 #[(fs.getD i default).v] W (Rt (aM (qX (fs.getD i default))) W)):=fun i hi W=> ZB _ W
  have R1:aY (∀ i,i < n→n≤30→qX (fs.getD i default)=true→oI fs ls=true):=fun i hi h hg=> ZE (by rw [hf];exact hi) (by rw [hf];exact h) hg
  have R2:aY (∀ i,i < m→uW (ls.getD i default)=true→oI fs ls=true):=fun i hi h=> ZF (by rw [hl];exact hi) h
  have R3:aY ((n≤30→anyN (fun i=> qX (fs.getD i default)) n=false)→anyN (fun i=> uW (ls.getD i default)) m=false→oI fs ls=(decide (12 < n∧n≤24) || (decide (30 < n) || decide (3 < m)))):=fun h1 h2=> by
    have:=ZG (fs:=fs) (ls:=ls) (by rw [hf];exact h1) (by rw [hl];exact h2)
    rwa [hf,hl] at this
  have Hf:=zq hf
  have Hl:=zq hl
  have Rf:=zq rf
  have Rl:=zq rl
  clear hf hl rf rl
  generalize oI fs ls=RR at *
  go_enter func4,ntmps4
  go_wp2
  go_loopw [5] (fun i wr=> ∃ k:Nat,i=aF aG k∧k≤n∧aY (anyN (fun i=> qX (fs.getD i default)) k=false)∧aY (aJ w.heap.size w wr)) (fun i _=> n - (aK i).toNat)
  case atStart=> exact⟨0,rfl,bR _,rfl,aI _ w⟩
  case round=>
    obtain⟨k,rfl,hk,HE,HB⟩:=hrel
    by_cases hgo:k < n∧n≤30
    · obtain⟨hlt,h30⟩:=hgo
      obtain⟨fb,fo,rfl,c0,c1,c2,c3,c4⟩:=(Rf.out.below HB.out).at (i:=k) (by rw [Hf.out];exact hlt) rfl
      have HGk:=zq (HG.out k hlt)
      have R1k:=zq (R1.out k hlt h30)
      have HS:=zq (fun h:qX (fs.getD k default)=false=> oZ (p:=fun i=> qX (fs.getD i default)) HE.out h)
      clear HE
      generalize fs.getD k default=f at *
      generalize qX f=G at *
      unfold Fr.v Fr.cells at HGk
      obtain⟨up,co,dir,sp,st⟩:=f
      simp only [] at *
      generalize bs sp=SP at *
      generalize bs st=ST at *
      go_wp2_with fail
      refine(HGk.out _).mono ?_
      rintro e W1 ⟨rfl,hb1⟩
      have fK:=zq (aT HB.out hb1)
      clear hb1
      cases G with
      | true=>
        go_wp2
        go_ret
        exact⟨by rw [R1k.out (by first | rfl | trivial)] <;> rfl,fK.out⟩
      | false=>
        go_wp2
        go_roundw
        case rel=> exact⟨k + 1,rfl,by omega,HS.out (by first | rfl | trivial),fK.out⟩
        case measure=> simp only [aK];omega
    · have HN:aY (n≤30→anyN (fun i=> qX (fs.getD i default)) n=false):=fun h=> by
        obtain rfl:k=n:=by omega
        exact HE.out
      clear HE HG R1
      have hend:aY True:=trivial
      by_cases hkn:k < n
      case' pos=> have h30:¬ n≤30:=fun h=> hgo ⟨hkn,h⟩
      all_goals
        clear hgo
        go_wp2
        rename aE=> wo
        go_loopw [6] (fun i wr=> ∃ k:Nat,i=aF aG k∧k≤m∧aY (anyN (fun i=> uW (ls.getD i default)) k=false)∧aY (aJ w.heap.size w wr)) (fun i _=> m - (aK i).toNat)
        case atStart=> exact⟨0,rfl,bR _,rfl,HB.out⟩
        case round=>
          clear HB
          obtain⟨k2,rfl,UN,Ju,gD⟩:=hrel
          by_cases hlt:k2 < m
          · obtain⟨lb,lo,rfl,x0,rp⟩:=(Rl.out.below gD.out).at (i:=k2) (by rw [Hl.out];exact hlt) rfl
            have Rp:=zq rp
            have R2k:=zq (R2.out k2 hlt)
            have WP:=zq (fun h:uW (ls.getD k2 default)=false=> oZ (p:=fun i=> uW (ls.getD i default)) Ju.out h)
            clear Ju rp
            generalize ls.getD k2 default=l at *
            have L1:aY (12 < l.ps.length→RR=true):=fun h=> R2k.out (longL_1 h)
            have L2:aY (∀ j,j < l.ps.length→Dh (l.ps.getD j default)=true→RR=true):=fun j hj h=> R2k.out (longL_2 hj h)
            have L3:aY (¬ 12 < l.ps.length→anyN (fun j=> Dh (l.ps.getD j default)) l.ps.length=false→anyN (fun i=> uW (ls.getD i default)) (k2 + 1)=false):=fun h h2=> WP.out (longL_0 h h2)
            clear R2k WP
            obtain⟨la,lc,lp⟩:=l
            simp only [] at *
            obtain⟨p,hp⟩:∃ p,lp.length=p:=⟨_,rfl⟩
            rw [hp] at x0 L1 L2 L3
            have Hp:=zq hp
            clear hp
            by_cases h12:12 < p
            · have R:=zq (L1.out h12)
              go_wp2
              go_ret
              exact⟨by rw [R.out] <;> rfl,gD.out⟩
            have L4:=zq (L3.out h12)
            clear L1 L3
            go_wp2
            rename aE=> wi
            go_loopw [7] (fun i wr=> ∃ j:Nat,i=aF aG j∧j≤p∧aY (anyN (fun j=> Dh (lp.getD j default)) j=false)∧aY (aJ wi.heap.size wi wr)) (fun i _=> p - (aK i).toNat)
            case atStart=> exact⟨0,rfl,bR _,rfl,aI _ wi⟩
            case round=>
              obtain⟨j,rfl,hj,HEj,Ed⟩:=hrel
              have x0' :=bV Ed.out x0
              by_cases hjp:j < p
              · obtain⟨pb,po,rfl,c0,c1,c2⟩:=(Rp.out.below Ed.out).at (i:=j) (by rw [Hp.out];exact hjp) rfl
                have L2j:=zq (L2.out j hjp)
                have L5:=zq (fun h:Dh (lp.getD j default)=false=> oZ (p:=fun j=> Dh (lp.getD j default)) HEj.out h)
                clear x0 HEj
                generalize lp.getD j default=P at *
                have hP:aY (Dh P=(decide (24 < (bs P.fr).size) || decide (24 < (bs P.en).size))):=by show _=_;rw [bU,bU];rfl
                obtain⟨ps,pf,pe⟩:=P
                simp only [] at *
                generalize Dh ⟨ps,pf,pe⟩=LP at *
                generalize bs pf=PF at *
                generalize bs pe=PE at *
                by_cases g1:24 < PF.size
                · have R:=zq (L2j.out (by rw [hP.out,decide_eq_true g1,rP]))
                  clear hP
                  go_wp2
                  go_ret
                  exact⟨by rw [R.out] <;> rfl,aT gD.out Ed.out⟩
                by_cases g2:24 < PE.size
                · have R:=zq (L2j.out (by rw [hP.out,decide_eq_true g2,Dr]))
                  clear hP
                  go_wp2
                  go_ret
                  exact⟨by rw [R.out] <;> rfl,aT gD.out Ed.out⟩
                have L6:=zq (L5.out (by rw [hP.out,decide_eq_false g1,decide_eq_false g2];rfl))
                clear hP L5 L2j
                go_wp2
                go_roundw
                case rel=> exact⟨j + 1,rfl,by omega,L6.out,Ed.out⟩
                case measure=> simp only [aK];omega
              · obtain rfl:j=p:=by omega
                have ZD:=zq (L4.out HEj.out)
                clear x0 HEj L4 L2
                go_wp2
                go_roundw
                case rel=> exact⟨k2 + 1,rfl,by omega,ZD.out,aT gD.out Ed.out⟩
                case measure=> simp only [aK];omega
          · obtain rfl:k2=m:=by omega
            have R:=zq (R3.out HN.out Ju.out)
            clear R3 HN Ju R2
            have hx:aY (n≤12∧3 < k2∧RR=true∨n≤12∧¬ 3 < k2∧RR=false∨12 < n∧n≤24∧RR=true∨24 < n∧n≤30∧3 < k2∧RR=true∨24 < n∧n≤30∧¬ 3 < k2∧RR=false∨30 < n∧RR=true):=by
              have R:=R.out
              have t1:∀ {p:Prop} [Decidable p],p→decide p=true:=fun h=> decide_eq_true h
              have t0:∀ {p:Prop} [Decidable p],¬ p→decide p=false:=fun h=> decide_eq_false h
              rcases fC 12 n with a1 | a1
              · rcases fC 24 n with a2 | a2
                · rcases fC 30 n with a3 | a3
                  · rw [t1 a3,rP,Dr] at R
                    exact .inr (.inr (.inr (.inr (.inr ⟨a3,R⟩))))
                  · rw [t0 (p:=12 < n∧n≤24) (by omega),t0 (p:=30 < n) (by omega),sE,sE] at R
                    rcases fC 3 k2 with a4 | a4
                    · rw [t1 a4] at R
                      exact .inr (.inr (.inr (.inl ⟨a2,a3,a4,R⟩)))
                    · rw [t0 (p:=3 < k2) (by omega)] at R
                      exact .inr (.inr (.inr (.inr (.inl ⟨a2,a3,by omega,R⟩))))
                · rw [t1 ⟨a1,a2⟩,rP] at R
                  exact .inr (.inr (.inl ⟨a1,a2,R⟩))
              · rw [t0 (p:=12 < n∧n≤24) (by omega),t0 (p:=30 < n) (by omega),sE,sE] at R
                rcases fC 3 k2 with a4 | a4
                · rw [t1 a4] at R
                  exact .inl ⟨a1,a4,R⟩
                · rw [t0 (p:=3 < k2) (by omega)] at R
                  exact .inr (.inl ⟨a1,by omega,R⟩)
            clear R
            rcases hx.out with ⟨a1,a2,rfl⟩ | ⟨a1,a2,rfl⟩ | ⟨a1,a2,rfl⟩ | ⟨a1,a2,a3,rfl⟩ | ⟨a1,a2,a3,rfl⟩ | ⟨a1,rfl⟩
            all_goals
              clear hx
              first
                | (exfalso;omega)
                | (go_wp2
                   go_ret
                   exact⟨by first | rfl | (show aO (aM _)=_;congr 2;simp;omega),gD.out⟩)
theorem FQ.Good.hhigh{q:FQ}(h:q.Good)(z:Rat):HQ 31 (q.high z):=by
 unfold FQ.high;split
 ·exact Xw.mono (by decide)
 ·exact h.hvel
theorem FQ.Good.hpos{q:FQ}(h:q.Good){z:Rat}{k:Nat}(hz:HQ k z):HQ (k+68) (q.pos z):=by
 unfold FQ.pos;split
 ·exact h.hco.mono (by omega)
 ·exact(h.hco.add (h.hvel.mul (hz.sub h.t))).mono (by omega)
theorem mo{f g:FQ}(hf:f.Good)(hg:g.Good){z:Rat}(h:z=f.t∨z=g.t):HQ 104 (f.pos z-g.pos z):=by
 rcases h with rfl|rfl
 ·rw[PH (q:=f) (by grind)];exact(hf.hco.sub (hg.hpos hf.t)).mono (by decide)
 ·rw[PH (q:=g) (by grind)];exact((hf.hpos hg.t).sub hg.hco).mono (by decide)
theorem Td{x y:Rat}(h:y<x):mJ x y=1:=by
 rcases rY x y with⟨a,b⟩|⟨a,b⟩|⟨a,b⟩
 ·grind
 ·grind
 ·exact b
theorem Te{x y:Rat}(h:¬y<x):mJ x y= -1∨mJ x y=0:=by
 rcases rY x y with⟨a,b⟩|⟨a,b⟩|⟨a,b⟩
 ·exact .inl b
 ·exact .inr b
 ·exact absurd a h
theorem cmpR_m1{x y:Rat}(h:x<y):mJ x y= -1:=by
 rcases rY x y with⟨a,b⟩|⟨a,b⟩|⟨a,b⟩
 ·exact b
 ·grind
 ·grind
theorem ZI{x y:Rat}(h:¬x<y):mJ x y=0∨mJ x y=1:=by
 rcases rY x y with⟨a,b⟩|⟨a,b⟩|⟨a,b⟩
 ·exact absurd a h
 ·exact .inl b
 ·exact .inr b
theorem XJ{x y:Rat}(h:bs (aV x)=bs (aV y)):x=y:=by
 have h1:aV x=aV y:=by rw[←aX (aV x),h,aX]
 rw[←kT x,h1,kT]
theorem JP(x y:Rat):((bs (aV x)).toList==(bs (aV y)).toList)=decide (x=y):=by
 rw[cI,cI,aX,aX];by_cases h:x=y
 ·subst h;simp
 ·rw[decide_eq_false h];exact beq_eq_false_iff_ne.2 fun e=>h (XJ (by rw[e]))
theorem Mq(x:Rat):((bs (aV x)).toList==[48])=decide (x=0):=by
 rw[cI,aX];by_cases h:x=0
 ·subst h;rw[sL];rfl
 ·rw[decide_eq_false h];exact beq_eq_false_iff_ne.2 fun e=>h (XJ (by rw[e,←sL]))
def zk(f g:FQ)(k:Nat):Rat:=if k=0 then mW f g else kP f g
def Tf(f g:FQ)(k:Nat):Prop:=okR f g (zk f g k)∧(k=1∨uA f g (zk f g k)<kP f g)
def Mr(f g:FQ)(k:Nat)(C:List Rat):Prop:=
 (f.t∈C∧g.t∈C)∧(∀z∈C,HQ 198 z)∧∀j,j<k→Tf f g j→uA f g (zk f g j)∈C
theorem Ms{f g:FQ}{k:Nat}{C:List Rat}(h:Mr f g k C)(hg:¬Tf f g k):Mr f g (k+1) C:=
 ⟨h.1,h.2.1,fun j hj hs=>by
  rcases Nat.lt_succ_iff_lt_or_eq.1 hj with h1|rfl
  ·exact h.2.2 j h1 hs
  ·exact absurd hs hg⟩
theorem ZJ{f g:FQ}{k:Nat}{C:List Rat}(h:Mr f g k C)(hx:HQ 198 (uA f g (zk f g k))):Mr f g (k+1) (C++[uA f g (zk f g k)]):=
 ⟨⟨kM _ h.1.1,kM _ h.1.2⟩,fun z hz=>by
  rcases List.mem_append.1 hz with h1|h1
  ·exact h.2.1 z h1
  ·rw[List.mem_singleton.1 h1];exact hx,
  fun j hj hs=>by
   rcases Nat.lt_succ_iff_lt_or_eq.1 hj with h1|rfl
   ·exact kM _ (h.2.2 j h1 hs)
   ·exact List.mem_append_right _ (List.mem_singleton.2 rfl)⟩
theorem mp(f g:FQ)(k:Nat):zk f g k=f.t∨zk f g k=g.t:=by
 unfold zk mW kP;split <;>split <;>simp
theorem VQ{w:aE}{base e T:Nat}{g n cap lb:Nat}{xs:List bB}{cs:Array bB}(h:w.ownsRow base e 1 (aB (some ⟨g,0,none⟩) n cap) n xs)(hb:bZ w lb cs T)(hn:cs.size<n):g≠lb:=by
 rintro rfl;rcases h.2 with⟨h1,_⟩|⟨g',c,D7,hv,_,hg,hn',_,hs,_⟩
 ·cases h1
 ·injection hv with e1 e2 e3;injection e1 with e1;injection e1 with e1;subst e1;rw[hb]at hg;injection hg with hg;injection hg with hg1;subst hg1;omega
theorem Mt(q:FQ)(z:Rat):q.drift z true=q.high z:=ip rfl
theorem Tg(q:FQ)(z:Rat):q.drift z false=q.low z:=iN (by decide)
theorem goes_no{f g:FQ}{k:Nat}{z x:Rat}(hz:zk f g k=z)(hx:uA f g z=x)(h:¬z<x):¬Tf f g k:=by
 rintro⟨h1,-⟩;rw[hz]at h1;exact h (by rw[←hx];exact h1.2)
theorem Th{f g:FQ}{k:Nat}{z x:Rat}(hz:zk f g k=z)(hx:uA f g z=x)(h0:f.high z-g.high z≠0)(h:z<x)(hk:k=1∨x<kP f g):Tf f g k:=by
 refine⟨?_,?_⟩
 ·rw[hz];exact⟨h0,by rw[hx];exact h⟩
 ·rw[hz,hx];exact hk
theorem P3(p:Prop):∃b:Bool,(b=true↔p):=by
 by_cases h:p
 ·exact⟨true,by simp[h]⟩
 ·exact⟨false,by simp[h]⟩
theorem ZK{f g:FQ}{C:List Rat}(h:Mr f g 2 C){z:Rat}(hm:eU f g z):z∈C:=by
 have e0:zk f g 0=mW f g:=rfl;have e1:zk f g 1=kP f g:=rfl;rcases Zl hm with e|e|⟨ho,e,hl⟩|⟨ho,e⟩
 ·rw[e];exact h.1.1
 ·rw[e];exact h.1.2
 ·have:=h.2.2 0 (by omega) ⟨by rw[e0];exact ho,.inr (by rw[e0,←e];exact hl)⟩;rw[e0,←e]at this;exact this
 ·have:=h.2.2 1 (by omega) ⟨by rw[e1];exact ho,.inl rfl⟩;rw[e1,←e]at this;exact this
def JQ(f g:FQ)(C:List Rat)(k:Nat)(O:List Rat):Prop:=
 (∀z∈O,eU f g z∧z∈C)∧∀j,j<k→eU f g (C.getD j 0)→C.getD j 0∈O
theorem VR{f g:FQ}{C:List Rat}{k:Nat}{O:List Rat}(h:JQ f g C k O)(hn:eU f g (C.getD k 0)→C.getD k 0∈O):JQ f g C (k+1) O:=
 ⟨h.1,fun j hj hm=>by
  rcases Nat.lt_succ_iff_lt_or_eq.1 hj with h1|rfl
  ·exact h.2 j h1 hm
  ·exact hn hm⟩
theorem ZL{f g:FQ}{C:List Rat}{k:Nat}{O:List Rat}(h:JQ f g C k O)(hm:eU f g (C.getD k 0))(hc:C.getD k 0∈C)(a:Nat):
 JQ f g C (k+1) (O.take a++[C.getD k 0]++O.drop a):=by
 have hin:∀z,z∈O.take a++[C.getD k 0]++O.drop a↔z∈O∨z=C.getD k 0:=by
  intro z;rw[zJ,zJ,gF];constructor
  ·rintro((h1|h1)|h1)
   ·exact .inl (List.mem_of_mem_take h1)
   ·exact .inr h1
   ·exact .inl (List.mem_of_mem_drop h1)
  ·rintro(h1|h1)
   ·rw[←List.take_append_drop a O]at h1;rcases List.mem_append.1 h1 with h2|h2
    ·exact .inl (.inl h2)
    ·exact .inr h2
   ·exact .inl (.inr h1)
 refine⟨fun z hz=>?_,fun j hj hj2=>?_⟩
 ·rcases(hin z).1 hz with h1|h1
  ·exact h.1 z h1
  ·rw[h1];exact⟨hm,hc⟩
 ·refine(hin _).2 ?_;rcases Nat.lt_succ_iff_lt_or_eq.1 hj with h1|rfl
  ·exact .inl (h.2 j h1 hj2)
  ·exact .inr rfl
theorem VS(f g:FQ):(mW f g=f.t∨mW f g=g.t)∧(kP f g=f.t∨kP f g=g.t):=by
 unfold mW kP;split <;>simp
theorem Ti{f g:FQ}(hf:f.Good)(hg:g.Good)(z:Rat):HQ 63 (f.high z-g.high z):=((hf.hhigh z).sub (hg.hhigh z)).mono (by decide)
theorem step_HQ{f g:FQ}(hf:f.Good)(hg:g.Good){z:Rat}(h:z=f.t∨z=g.t)(h0:f.high z-g.high z≠0):HQ 30 z∧HQ 167 ((f.pos z-g.pos z)/(f.high z-g.high z))∧HQ 198 (uA f g z):=by
 have hz:HQ 30 z:=by rcases h with rfl|rfl;exact hf.t;exact hg.t
 have h1:=(mo hf hg h).div (Ti hf hg z) h0;exact⟨hz,h1.mono (by decide),(hz.sub h1).mono (by decide)⟩
abbrev AF(up:Bool)(co dir:Int)(S T:ByteArray):Array bB:= #[aM up,aF aG co,aF aG dir,aA S,aA T]
end
end Go.Proofs.YtcimoodjlopdaaaGreatDoor
