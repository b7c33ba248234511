import Derived.Deep.Slices
import Derived.Deep.Strs
import Derived.Test.YtcimoodjlopdaaaGreatDoorZ0
import Derived.Test.YtcimoodjlopdaaaGreatDoorZ17
import Derived.Test.YtcimoodjlopdaaaGreatDoorZ21
import Derived.Test.YtcimoodjlopdaaaGreatDoorZ25
import Derived.Test.YtcimoodjlopdaaaGreatDoorZ27
namespace Go.Proofs.YtcimoodjlopdaaaGreatDoor
set_option maxRecDepth 100000
set_option maxHeartbeats 8000000
set_option linter.all false
open Go.Proofs.Tryz
open Bool renaming or_eq_false_iff->fM
open Go renaming World->aE,Calls->aQ,Value->bB,Addr->dE,MemPlace->Nx
open Go.Calls renaming mono->wW
open Go.DataW renaming trod->mB,trod_string->uT,trod_int->MU,trod_struct->bh
open Go.Ending renaming returned->aO
open Go.IntKind renaming i64->aG
open Go.Proofs.Tryz renaming prog->aC,underlying3->gM,underlying24->nH,ntmps3->WD,func3->bg
open Go.RowKit renaming Below->aJ,intOf->aK,Hid->aY
open Go.Value renaming string->aA,slice->aB,int->aF,bool->aM,tuple->bO
open Go.World renaming cells?_some->bi
open List renaming getD_eq_getElem?_getD->aN,length_map->cG,getElem_of_mem->fV,mem_map_of_mem->FC
open Nat renaming le_refl->aD
section
open Go Go.RowKit Go.Shelf Go.Lib
def sqQ:List Po:=[⟨[51],[51]⟩,⟨[55],[51]⟩,⟨[55],[55]⟩,⟨[51],[55]⟩]
theorem sq_rdo{W:aE}{P:Nat}(h:bZ W P #[aA ⟨#[51]⟩,aA ⟨#[51]⟩,aA ⟨#[55]⟩,aA ⟨#[51]⟩,aA ⟨#[55]⟩,aA ⟨#[55]⟩,aA ⟨#[51]⟩,aA ⟨#[55]⟩] 56):PM W (some ⟨P,0,none⟩) sqQ:=by
 intro i hi;have hi:i<4:=hi;match i,hi with
 |0,_=>exact⟨_,_,rfl,h.cell 0,h.cell 1⟩
 |1,_=>exact⟨_,_,rfl,h.cell 2,h.cell 3⟩
 |2,_=>exact⟨_,_,rfl,h.cell 4,h.cell 5⟩
 |3,_=>exact⟨_,_,rfl,h.cell 6,h.cell 7⟩
theorem Qg{α β:Type}{f:α→β}{l:List α}{y:β}(h:l.map f=[y]):∃x,l=[x]∧f x=y:=by
 match l,h with
 |[x],h=>exact⟨x,rfl,by simpa using h⟩
theorem qu(a b la:Option dE)(w:aE)(hE:eZ w)(rf:wP w a xV)(rl:zP w b [⟨la,4,A6 [48] [49,48]⟩]):
 aQ aC 11 #[aB a 4 4,aB b 1 1,aA ⟨#[48]⟩,aA ⟨#[51]⟩] w fun e w'=>(∃b' c la' lc,e=aO (bO #[aB b' 1 c,aF aG 0])∧zP w' b' [⟨la',lc,A6 [51] [55]⟩])∧aJ w.heap.size w w':=by
 have:=Qf a b 4 1 4 1 xV [⟨la,4,A6 [48] [49,48]⟩] [48] [51] w hE rfl rfl (by decide) (by decide) (by decide) XQ (GX la 4 [48] [49,48] (by decide) (by decide)) (by decide) (by decide) rf rl;rw[XO,sq_val3]at this;refine wW this ?_;rintro e w'⟨⟨b',c,iJ,rfl,hm,hr⟩,hb⟩;obtain⟨⟨la',lc,ps⟩,rfl,hp⟩:=Qg hm;simp only[]at hp;subst hp;exact⟨⟨b',c,la',lc,rfl,hr⟩,hb⟩
theorem qw(a b la:Option dE)(w:aE)(hE:eZ w)(rf:wP w a xV)(rl:zP w b [⟨la,4,A6 [48] [49,48]⟩]):
 aQ aC 11 #[aB a 4 4,aB b 1 1,aA ⟨#[48]⟩,aA ⟨#[53]⟩] w fun e w'=>(∃b' c la' lc,e=aO (bO #[aB b' 1 c,aF aG 0])∧zP w' b' [⟨la',lc,A6 [53] [53]⟩])∧aJ w.heap.size w w':=by
 have:=Qf a b 4 1 4 1 xV [⟨la,4,A6 [48] [49,48]⟩] [48] [53] w hE rfl rfl (by decide) (by decide) (by decide) XQ (GX la 4 [48] [49,48] (by decide) (by decide)) (by decide) (by decide) rf rl;rw[XP,sq_val5]at this;refine wW this ?_;rintro e w'⟨⟨b',c,iJ,rfl,hm,hr⟩,hb⟩;obtain⟨⟨la',lc,ps⟩,rfl,hp⟩:=Qg hm;simp only[]at hp;subst hp;exact⟨⟨b',c,la',lc,rfl,hr⟩,hb⟩
theorem ai(a b la:Option dE)(c lc:Nat)(w:aE)(hE:eZ w)(rf:wP w a xV)(rl:zP w b [⟨la,lc,A6 [51] [55]⟩]):
 aQ aC 7 #[aB a 4 4,aB b 1 c,aA ⟨#[51]⟩] w fun e w'=>(∃pb po c' qa qc,e=aO (bO #[aB (some ⟨pb,po,none⟩) 1 c',aF aG 0])∧w'.cell? ⟨pb,po,none⟩=some (aB qa 4 qc)∧PM w' qa sqQ)∧aJ w.heap.size w w':=by
 have:=IT a b 4 1 4 c xV [⟨la,lc,A6 [51] [55]⟩] [51] w hE rfl rfl (by decide) (by decide) XQ (GX la lc [51] [55] (by decide) (by decide)) (by decide) rf rl;rw[sq_perr,sq_pval]at this;refine wW this ?_;rintro e w'⟨⟨p,c',iJ,rfl,hm,hr⟩,hb⟩;obtain⟨⟨qa,qc,qs⟩,rfl,hp⟩:=Qg hm;simp only[]at hp;subst hp;obtain⟨pb,po,rfl,h1,h2⟩:=hr 0 (by simp);exact⟨⟨pb,po,c',qa,qc,rfl,h1,h2⟩,hb⟩
theorem aj(w:aE)(hE:eZ w):aQ aC 6 #[] w (Rt (aM true) w):=by
 have HS:=zq (Wf w);have HE:aY (∀W,aJ w.heap.size w W→eZ W):=fun W h=>hE.below h;clear hE;go_enter func6,ntmps6;go_wp2_with fail
 refine HS.out.mono ?_;rintro e W1⟨⟨a,b,la,rfl,ff,hl1⟩,hb1⟩;have HF1:=zq ff;have HL1:=zq hl1;have fK:=zq hb1;clear HS ff hl1 hb1;go_wp2_with fail
 refine(qu a b la W1 (HE.out _ fK.out) HF1.out HL1.out).mono ?_;rintro e W2⟨⟨b3,c3,la3,lc3,rfl,hl3⟩,hb2⟩;have HF2:=zq (HF1.out.below hb2);have QR:=zq (HL1.out.below hb2);have HL3:=zq hl3;have gD:=zq (aT fK.out hb2);clear hl3 hb2 HF1 HL1 fK;go_wp2_with fail
 refine(ai a b3 la3 c3 lc3 W2 (HE.out _ gD.out) HF2.out HL3.out).mono ?_;rintro e W3⟨⟨pb,po,c',qa,qc,rfl,hp,ho⟩,hb3⟩;have HF3:=zq (HF2.out.below hb3);have HL3':=zq (QR.out.below hb3);have HP3:=zq hp;have ot:=zq ho;have HB3:=zq (aT gD.out hb3);clear hp ho hb3 HF2 QR HL3 gD;go_wp2_with fail
 refine(qw a b la W3 (HE.out _ HB3.out) HF3.out HL3'.out).mono ?_;rintro e W4⟨⟨b5,c5,la5,lc5,rfl,hl5⟩,hb4⟩;have HF4:=zq (HF3.out.below hb4);have HL5:=zq hl5;have HP4:=zq (bV hb4 HP3.out);have pd:=zq (ot.out.below hb4);have vG:=zq (aT HB3.out hb4);clear hl5 hb4 HF3 HL3' HP3 ot HB3;go_wp2_with fail
 refine(np a b5 4 c5 la5 lc5 W4 (HE.out _ vG.out) HF4.out HL5.out).mono ?_;rintro e W5⟨rfl,hb5⟩;have hp5:=bV hb5 HP4.out;have HP5:=zq hp5;have UC:=zq (pd.out.below hb5);have wV:=zq (aT vG.out hb5);clear hb5 HF4 HL5 HP4 pd vG;obtain⟨W6,hW6⟩:∃V,W5.alloc (.cells #[aA ⟨#[51]⟩,aA ⟨#[51]⟩,aA ⟨#[55]⟩,aA ⟨#[51]⟩,aA ⟨#[55]⟩,aA ⟨#[55]⟩,aA ⟨#[51]⟩,aA ⟨#[55]⟩] 56)=V:=⟨_,rfl⟩;have hb6:aJ W5.heap.size W5 W6:=by rw[←hW6];exact(Below.refl _ _).alloc (aD _) _
 have HQ6:aY (PM W6 (some ⟨W5.heap.size,0,none⟩) sqQ):=by rw[←hW6];exact sq_rdo (bZ.new _ _ _)
 have HO6:=zq (UC.out.below hb6);have pF:=zq (aT wV.out hb6);clear hb6 UC;go_wp2_with fail
 try rw[hW6]
 refine(Ox qa (some ⟨W5.heap.size,0,none⟩) 4 qc 4 sqQ W6 rfl (by decide) HO6.out HQ6.out).mono ?_;rintro e W7⟨rfl,hb7⟩;have JO:=zq (aT pF.out hb7);clear hb7;go_wp2;go_ret;exact⟨rfl,JO.out⟩
theorem qz{fs:List Fr}{ls:List Lp}(h:oI fs ls=false):fs.length≤30∧ls.length≤3∧(∀f∈fs,f.sp.length≤30∧f.st.length≤30)∧(∀l∈ls,l.ps.length≤12)∧Fk ls:=by
 unfold oI at h;simp only[fM,decide_eq_false_iff_not,Bool.and_eq_false_iff]at h;obtain⟨h1,h2,h3,h4,h5⟩:=h;have h6:fs.length≤30:=by omega
 have h1:anyN (fun i=>qX (fs.getD i default)) fs.length=false:=h1.elim (fun k=>absurd h6 k) (fun k=>k);have hl:∀l∈ls,uW l=false:=fun l hl=>by
  obtain⟨i,hi,rfl⟩:=fV hl;have:=lU.1 h2 i hi;simpa[aN,hi]using this
 have h12:∀l∈ls,l.ps.length≤12:=fun l hm=>by
  have:=hl l hm;unfold uW at this;simp only[fM,decide_eq_false_iff_not]at this;omega
 refine⟨h6,by omega,fun f hf=>?_,h12,fun l hm=>⟨by have:=h12 l hm;omega,fun p hp=>?_⟩⟩
 ·obtain⟨i,hi,rfl⟩:=fV hf;have:=lU.1 h1 i hi;rw[show fs.getD i default=fs[i] by simp[aN,hi]]at this;unfold qX at this;simp only[fM,decide_eq_false_iff_not]at this;omega
 ·obtain⟨j,hj,rfl⟩:=fV hp;have:=hl l hm;unfold uW at this;rw[fM]at this;have:=lU.1 this.2 j hj;rw[show l.ps.getD j default=l.ps[j] by simp[aN,hj]]at this;unfold Dh at this;simp only[fM,decide_eq_false_iff_not]at this;omega
theorem Qh{fs:List Fr}{ls:List Lp}{x y:List UInt8}(h:∀l∈ls,l.ps.length≤12)(h3:ls.length≤3):(kZ fs ls x y).length≤3∧∀ps∈kZ fs ls x y,ps.length≤12:=by
 unfold kZ;split
 ·rw[vH];refine⟨h3,fun ps hp=>?_⟩;unfold eV at hp;obtain⟨l,hl,rfl⟩:=List.mem_map.1 hp;rw[sA];exact h l hl
 ·exact⟨by simp,fun ps hp=>absurd hp (by simp)⟩
theorem Qi{fs:List Fr}{ls:List Lp}{z:List UInt8}(pK:∀f∈fs,f.sp.length≤30∧f.st.length≤30)(sW:Fk ls):(gT fs ls z).length≤24∧∀ps∈gT fs ls z,ps.length≤1000000:=by
 by_cases h:fR fs ls z=0
 ·obtain⟨h1,h2⟩:=IW (z:=z) pK sW h;exact⟨h1,fun ps hp=>(h2 ps hp).1⟩
 ·unfold gT;rw[iN h];exact⟨by simp,fun ps hp=>absurd hp (by simp)⟩
theorem long_no{x y:List UInt8}(h:Dl [x,y]=false):x.length≤24∧y.length≤24:=by
 unfold Dl XV at h;have h0:=lU.1 h 0 (by simp);have h1:=lU.1 h 1 (by simp);simp at h0 h1;exact⟨h0,h1⟩
theorem samePts{PV:List (List Po)}(s1:PV.length≤24)(s2:∀ps∈PV,ps.length≤1000000):∀(p1 p2:Option dE)(c1 c2:Nat)(l1 l2:List Lo)(W:aE),l1.map Lo.qs=PV→l2.map Lo.qs=PV→IR W p1 l1→IR W p2 l2→aQ aC 13 #[aB p1 PV.length c1,aB p2 PV.length c2] W (Rt (aM true) W):=by
 intro p1 p2 c1 c2 l1 l2 W e1 e2 r1 r2;have hl:l1.length=PV.length:=by rw[←e1,cG]
 have hq:∀l∈l1,l.qs.length≤1000000:=fun l h=>s2 _ (by rw[←e1];exact FC h);exact Tz p1 p2 PV.length c1 c2 l1 l2 W hl (e2.trans e1.symm) (by omega) hq r1 r2
theorem sameLps{MV:List (List Pt)}(s1:MV.length≤3)(s2:∀ps∈MV,ps.length≤12):∀(p1 p2:Option dE)(c1 c2:Nat)(l1 l2:List Lp)(W:aE),l1.map Lp.ps=MV→l2.map Lp.ps=MV→zP W p1 l1→zP W p2 l2→aQ aC 14 #[aB p1 MV.length c1,aB p2 MV.length c2] W (Rt (aM true) W):=by
 intro p1 p2 c1 c2 l1 l2 W e1 e2 r1 r2;have hs:BV l1 l2=true:=by unfold BV;rw[e1,e2];simp
 have h1:l1.length=MV.length:=by rw[←e1,cG]
 have h2:l2.length=MV.length:=by rw[←e2,cG]
 have q1:∀l∈l1,l.ps.length≤1000000:=fun l h=>by have:=s2 l.ps (by rw[←e1];exact FC h);omega
 have q2:∀l∈l2,l.ps.length≤1000000:=fun l h=>by have:=s2 l.ps (by rw[←e2];exact FC h);omega
 have:=Np p1 p2 MV.length MV.length c1 c2 l1 l2 W h1 h2 (by omega) (by omega) q1 q2 r1 r2;rw[hs]at this;exact this
theorem Kn(a b:Option dE)(n m ca cb:Nat)(fs:List Fr)(ls:List Lp)(z y:List UInt8)(i:Int)(w:aE)(hE:eZ w)
 (hf:fs.length=n)(hl:ls.length=m)(hn:n≤9223372036854775807)(hm:m≤9223372036854775807)(MB:n≤ca)(hz:z.length≤9223372036854775807)(hy:y.length≤9223372036854775807)
 (hi1: -9223372036854775808≤i)(hi2:i≤9223372036854775807)(rf:wP w a fs)(rl:zP w b ls):
 aQ aC 3 #[aB a n ca,aB b m cb,aA (bs z),aA (bs y),aF aG i] w (Rt (aM true) w):=by
 have HG:=zq (ZH a b n m ca cb fs ls w hf hl hn hm rf rl);have HAw:aY (∀W,aJ w.heap.size w W→aQ aC 6 #[] W (Rt (aM true) W)):=fun W hW=>aj W (hE.below hW);have HLg:aY (∀W g,aJ w.heap.size w W→bZ W g #[aA (bs z),aA (bs y)] 24→aQ aC 5 #[aB (some ⟨g,0,none⟩) 2 2] W (Rt (aM (Dl [z,y])) W)):=fun W g hW q=>by
  have rz:xO W (some ⟨g,0,none⟩) [z,y]:=by
   intro i hi;have hi:i<2:=hi;match i,hi with
   |0,_=>exact⟨_,_,rfl,q.cell 0⟩
   |1,_=>exact⟨_,_,rfl,q.cell 1⟩
  exact ph (some ⟨g,0,none⟩) 2 2 [z,y] W rfl (by decide) (fun x hx=>by simp only[List.mem_cons,List.not_mem_nil,or_false]at hx;rcases hx with rfl|rfl<;>assumption) rz
 by_cases hg:oI fs ls=true
 ·rw[hg]at HG;clear hE rf rl hg HLg;generalize bs z=Z at *;generalize bs y=Y at *;go_enter bg,WD;go_wp2_with fail
  refine HG.out.mono ?_;rintro e W1⟨rfl,hb1⟩;have fK:=zq hb1;clear hb1 HG;go_wp2_with fail
  refine(HAw.out _ fK.out).mono ?_;rintro e W2⟨rfl,hb2⟩;have gD:=zq (aT fK.out hb2);clear hb2;go_wp2;go_ret;exact⟨rfl,gD.out⟩
 have hg:oI fs ls=false:=by simpa using hg
 rw[hg]at HG;by_cases hlg:Dl [z,y]=true
 ·rw[hlg]at HLg;clear hE rf rl hg hlg;generalize bs z=Z at *;generalize bs y=Y at *;go_enter bg,WD;go_wp2_with fail
  refine HG.out.mono ?_;rintro e W1⟨rfl,hb1⟩;have fK:=zq hb1;clear hb1 HG;go_wp2_with fail
  refine(HLg.out _ _ (fK.out.alloc fK.out.size _) (bZ.new W1 _ _)).mono ?_;rintro e W2⟨rfl,hb2⟩;have gD:=zq (aT (fK.out.alloc fK.out.size _) hb2);clear hb2 HLg;go_wp2_with fail
  refine(HAw.out _ gD.out).mono ?_;rintro e W3⟨rfl,hb3⟩;have HB3:=zq (aT gD.out hb3);clear hb3;go_wp2;go_ret;exact⟨rfl,HB3.out⟩
 have hlg:Dl [z,y]=false:=by simpa using hlg
 rw[hlg]at HLg;obtain⟨h30,h3,pK,h12,sW⟩:=qz hg;obtain⟨hz24,hy24⟩:=long_no hlg;have hE':=fun W(hW:aJ w.heap.size w W)=>hE.below hW;have YO:aY (∀W,aJ w.heap.size w W→aQ aC 7 #[aB a n ca,aB b m cb,aA (bs z)] W (Mi W (gT fs ls z) (fR fs ls z))):=fun W hW=>IT a b n m ca cb fs ls z W (hE' W hW) hf hl (by omega) (by omega) pK sW (by omega) (rf.below hW) (rl.below hW);have Xb:aY (∀W,aJ w.heap.size w W→aQ aC 8 #[aB a n ca,aB b m cb,aA (bs z)] W (Mi W (gT fs ls z) (fR fs ls z))):=fun W hW=>Mj a b n m ca cb fs ls z W (hE' W hW) hf hl (by omega) (by omega) pK sW (by omega) (rf.below hW) (rl.below hW);have ZO:aY (∀W,aJ w.heap.size w W→aQ aC 9 #[aB a n ca,aB b m cb,aA (bs z)] W (Rt (bO #[aA (bs (Ae fs ls z).1),aF aG (Ae fs ls z).2]) W)):=fun W hW=>tr_Area a b n m ca cb fs ls z W (hE' W hW) hf hl (by omega) (by omega) pK sW (by omega) (rf.below hW) (rl.below hW);have HA2:aY (∀W,aJ w.heap.size w W→aQ aC 10 #[aB a n ca,aB b m cb,aA (bs z)] W (Rt (bO #[aA (bs (Ae fs ls z).1),aF aG (Ae fs ls z).2]) W)):=fun W hW=>om a b n m ca cb fs ls z W (hE' W hW) hf hl (by omega) (by omega) pK sW (by omega) (rf.below hW) (rl.below hW);have ZP:aY (∀W,aJ w.heap.size w W→aQ aC 11 #[aB a n ca,aB b m cb,aA (bs z),aA (bs y)] W (G7 W (kZ fs ls z y) (iO fs ls z y))):=fun W hW=>Qf a b n m ca cb fs ls z y W (hE' W hW) hf hl (by omega) MB (by omega) pK sW (by omega) (by omega) (rf.below hW) (rl.below hW);have oc:aY (∀W,aJ w.heap.size w W→aQ aC 12 #[aB a n ca,aB b m cb,aA (bs z),aA (bs y)] W (G7 W (kZ fs ls z y) (iO fs ls z y))):=fun W hW=>qh a b n m ca cb fs ls z y W (hE' W hW) hf hl (by omega) (by omega) pK sW (by omega) (by omega) (rf.below hW) (rl.below hW);have If:aY (∀k,k<m→∀W,aJ w.heap.size w W→aQ aC 15 #[aB a n ca,(ls.getD k default).v,aF aG i] W (Rt (bO #[aM (nK fs (ls.getD k default) i).1,aF aG (nK fs (ls.getD k default) i).2]) W)):=fun k hk W hW=>by
  obtain⟨_,_,-,-,rp⟩:=(rl.below hW) k (by rw[hl];exact hk);exact ZA a (ls.getD k default).a n _ ca (ls.getD k default).cap fs (ls.getD k default).ps i W (hE' W hW) hf rfl (by omega) (by have:=h12 _ (cP (by rw[hl];exact hk) default);omega) pK hi1 hi2 (rf.below hW) rp
 have AC:aY (∀k,k<m→∀W,aJ w.heap.size w W→aQ aC 16 #[aB a n ca,(ls.getD k default).v,aF aG i] W (Rt (bO #[aM (nK fs (ls.getD k default) i).1,aF aG (nK fs (ls.getD k default) i).2]) W)):=fun k hk W hW=>by
  obtain⟨_,_,-,-,rp⟩:=(rl.below hW) k (by rw[hl];exact hk);exact VN a (ls.getD k default).a n _ ca (ls.getD k default).cap fs (ls.getD k default).ps i W (hE' W hW) hf rfl (by omega) (by have:=h12 _ (cP (by rw[hl];exact hk) default);omega) pK hi1 hi2 (rf.below hW) rp
 have HL:aY (∀k,k<m→∀W,aJ w.heap.size w W→∃lb lo,b=some ⟨lb,lo,none⟩∧W.cell? ⟨lb,lo+k,none⟩=some (ls.getD k default).v):=fun k hk W hW=>by
  obtain⟨lb,lo,e,hc,-⟩:=(rl.below hW) k (by rw[hl];exact hk);exact⟨lb,lo,e,hc⟩
 have rV:=Qi (z:=z) pK sW;have hms:=Qh (fs:=fs) (x:=z) (y:=y) h12 h3;have HSp:=zq (samePts rV.1 rV.2);have HSl:=zq (sameLps hms.1 hms.2);clear rV hms;clear hE' hE rf rl hg hlg h30 h3 pK h12 sW hz24 hy24 hf hl MB hz hy;generalize bs (Ae fs ls z).1=AS at *;generalize(Ae fs ls z).2=AE at *;generalize fR fs ls z=PE at *;generalize gT fs ls z=PV at *;generalize iO fs ls z y=ME at *;generalize kZ fs ls z y=MV at *;generalize bs z=Z at *;generalize bs y=Y at *;unfold Mi at YO Xb;unfold G7 at ZP oc;go_enter bg,WD;go_wp2_with fail
 refine HG.out.mono ?_;rintro e W1⟨rfl,hb1⟩;have fK:=zq hb1;clear hb1 HG;go_wp2_with fail
 refine(HLg.out _ _ (fK.out.alloc fK.out.size _) (bZ.new W1 _ _)).mono ?_;rintro e W2⟨rfl,hb2⟩;have gD:=zq (aT (fK.out.alloc fK.out.size _) hb2);clear hb2 HLg fK;go_wp2_with fail
 refine(YO.out _ gD.out).mono ?_;rintro e W3⟨⟨p1,c1,l1,rfl,e1,r1⟩,hb3⟩;have HB3:=zq (aT gD.out hb3);have E1:=zq e1;have R1:=zq r1;clear hb3 YO gD e1 r1;go_wp2_with fail
 refine(Xb.out _ HB3.out).mono ?_;rintro e W4⟨⟨p2,c2,l2,rfl,e2,r2⟩,hb4⟩;have vG:=zq (aT HB3.out hb4);have E2:=zq e2;have R1:=zq (R1.out.below hb4);have R2:=zq r2;clear hb4 Xb HB3 e2 r2;go_wp2_with fail
 refine(ZO.out _ vG.out).mono ?_;rintro e W5⟨rfl,hb5⟩;have wV:=zq (aT vG.out hb5);have R1:=zq (R1.out.below hb5);have R2:=zq (R2.out.below hb5);clear hb5 ZO vG;go_wp2_with fail
 refine(HA2.out _ wV.out).mono ?_;rintro e W6⟨rfl,hb6⟩;have pF:=zq (aT wV.out hb6);have R1:=zq (R1.out.below hb6);have R2:=zq (R2.out.below hb6);clear hb6 HA2 wV;go_wp2_with fail
 refine(ZP.out _ pF.out).mono ?_;rintro e W7⟨⟨q1,d1,m1,rfl,e3,r3⟩,hb7⟩;have JO:=zq (aT pF.out hb7);have E3:=zq e3;have R1:=zq (R1.out.below hb7);have R2:=zq (R2.out.below hb7);have R3:=zq r3;clear hb7 ZP pF e3 r3;go_wp2_with fail
 refine(oc.out _ JO.out).mono ?_;rintro e W8⟨⟨q2,d2,m2,rfl,e4,r4⟩,hb8⟩;have VE:=zq (aT JO.out hb8);have E4:=zq e4;have R1:=zq (R1.out.below hb8);have R2:=zq (R2.out.below hb8);have R3:=zq (R3.out.below hb8);have R4:=zq r4;clear hb8 oc JO e4 r4;go_wp2_with fail
 refine(HSp.out p1 p2 c1 c2 l1 l2 W8 E1.out E2.out R1.out R2.out).mono ?_;rintro e W9⟨rfl,QM⟩;have V6:=zq (aT VE.out QM);have R3:=zq (R3.out.below QM);have R4:=zq (R4.out.below QM);clear QM HSp VE R1 R2 E1 E2;go_wp2_with fail
 refine(HSl.out q1 q2 d1 d2 m1 m2 W9 E3.out E4.out R3.out R4.out).mono ?_;rintro e W10⟨rfl,Kb⟩;have G4:=zq (aT V6.out Kb);clear Kb HSl V6 R3 R4 E3 E4;go_wp2;go_loopw[115] (fun v wr=>(∃k:Nat,k≤m∧v=aF aG (k:Int))∧aY (aJ w.heap.size w wr)) (fun v _=>m-(aK v).toNat);case atStart=>exact⟨⟨0,Nat.zero_le _,rfl⟩,G4⟩
 case round=>
  clear G4;obtain⟨⟨k,hk,rfl⟩,HB⟩:=hrel;by_cases hlt:k<m
  ·obtain⟨lb,lo,rfl,hc⟩:=HL.out k hlt _ HB.out;have uc:=zq (If.out k hlt);have jq:=zq (AC.out k hlt);unfold Lp.v at uc jq hc;generalize(ls.getD k default).a=la at *;generalize(ls.getD k default).ps.length=ln at *;generalize(ls.getD k default).cap=lc at *;generalize(nK fs (ls.getD k default) i).1=rb at *;generalize(nK fs (ls.getD k default) i).2=re at *;go_wp2_with fail
   refine(uc.out _ HB.out).mono ?_;rintro e V1⟨rfl,hb1⟩;have fK:=zq (aT HB.out hb1);clear hb1 uc HB hc;go_wp2_with fail
   refine(jq.out _ fK.out).mono ?_;rintro e V2⟨rfl,hb2⟩;have gD:=zq (aT fK.out hb2);clear hb2 jq fK;go_wp2;go_roundw;case rel=>exact⟨⟨k+1,by omega,by go_num⟩,gD⟩
   case measure=>simp only[aK];omega
  ·obtain rfl:m=k:=by omega
   go_wp2_with fail
   refine(HAw.out _ HB.out).mono ?_;rintro e V1⟨rfl,hb1⟩;have fK:=zq (aT HB.out hb1);clear hb1;go_wp2;go_ret;exact⟨rfl,fK.out⟩
end
section
open Go Go.RowKit Go.Lib Go.Deep
section
variable{H:Type}{enc:TypeId×bB→H}{w:aE}{base:Nat}{EH:Nat→Bool}{yR:Bool}
theorem KK(s:ByteArray):bs s.data.toList=s:=by cases s;simp[bs]
theorem addp(b off n:Nat):(⟨b,off,none⟩:dE).add n=⟨b,off+n,none⟩:=by unfold Addr.add;split <;>simp_all
theorem OE{a:dE}{v:bB}(h:w.cell? (a.add 0)=some v):∃b off,a=⟨b,off,none⟩:=by
 obtain⟨b,off,sp⟩:=a;have h:w.cell? ⟨b,off,sp⟩=some v:=h;unfold World.cell? at h;split at h
 ·split at h
  ·cases h
  ·rename_i h2;cases sp with
   |none=>exact⟨b,off,rfl⟩
   |some x=>exact absurd rfl h2
 ·cases h
theorem c_bool:Tryz.prog.cellsOf 4=1:=by kernel_rfl
theorem rd:Tryz.prog.cellsOf 3=1:=by kernel_rfl
theorem XY:Tryz.prog.cellsOf 24=1:=by kernel_rfl
theorem c_fr:Tryz.prog.cellsOf 44=5:=by kernel_rfl
theorem c_pt:Tryz.prog.cellsOf 46=3:=by kernel_rfl
theorem c_ps:Tryz.prog.cellsOf 38=1:=by kernel_rfl
theorem Wg{fuel:Nat}{cs:List bB}{x:DataW H×List Nx}(h:mB enc aC w base EH yR fuel 44 cs=some x):∃f:Fr,cs=f.cells.toList:=by
 obtain⟨xs,n,-,-,hl,hlx,hf⟩:=bh underlying44 h;rw[c_fr]at hl;match cs,hl with
 |[v0,v1,v2,v3,v4],_=>
  have hlx:xs.length=5:=hlx;match xs,hlx with
  |[x0,x1,x2,x3,x4],_=>
   have h0:mB enc aC w base EH yR n 4 (([v0,v1,v2,v3,v4].drop 0).take (Tryz.prog.cellsOf 4))=some x0:=hf 0 _ rfl;have h1:mB enc aC w base EH yR n 3 (([v0,v1,v2,v3,v4].drop 1).take (Tryz.prog.cellsOf 3))=some x1:=hf 1 _ rfl;have h2:mB enc aC w base EH yR n 3 (([v0,v1,v2,v3,v4].drop 2).take (Tryz.prog.cellsOf 3))=some x2:=hf 2 _ rfl;have h3:mB enc aC w base EH yR n 24 (([v0,v1,v2,v3,v4].drop 3).take (Tryz.prog.cellsOf 24))=some x3:=hf 3 _ rfl;have h4:mB enc aC w base EH yR n 24 (([v0,v1,v2,v3,v4].drop 4).take (Tryz.prog.cellsOf 24))=some x4:=hf 4 _ rfl;obtain⟨b,e0,-⟩:=DataW.trod_bool underlying4 (by rw[c_bool]at h0;exact h0);obtain⟨i,e1,-⟩:=MU gM (by rw[rd]at h1;exact h1);obtain⟨j,e2,-⟩:=MU gM (by rw[rd]at h2;exact h2);obtain⟨s,e3,-⟩:=uT nH (by rw[XY]at h3;exact h3);obtain⟨t,e4,-⟩:=uT nH (by rw[XY]at h4;exact h4);cases e0;cases e1;cases e2;cases e3;cases e4;exact⟨⟨b,i,j,s.data.toList,t.data.toList⟩,by simp[Fr.cells,KK]⟩
theorem ak{fuel:Nat}{cs:List bB}{x:DataW H×List Nx}(h:mB enc aC w base EH yR fuel 46 cs=some x):∃p:Pt,cs=p.cells.toList:=by
 obtain⟨xs,n,-,-,hl,hlx,hf⟩:=bh underlying46 h;rw[c_pt]at hl;match cs,hl with
 |[v0,v1,v2],_=>
  have hlx:xs.length=3:=hlx;match xs,hlx with
  |[x0,x1,x2],_=>
   have h0:mB enc aC w base EH yR n 3 (([v0,v1,v2].drop 0).take (Tryz.prog.cellsOf 3))=some x0:=hf 0 _ rfl;have h1:mB enc aC w base EH yR n 24 (([v0,v1,v2].drop 1).take (Tryz.prog.cellsOf 24))=some x1:=hf 1 _ rfl;have h2:mB enc aC w base EH yR n 24 (([v0,v1,v2].drop 2).take (Tryz.prog.cellsOf 24))=some x2:=hf 2 _ rfl;obtain⟨i,e0,-⟩:=MU gM (by rw[rd]at h0;exact h0);obtain⟨s,e1,-⟩:=uT nH (by rw[XY]at h1;exact h1);obtain⟨t,e2,-⟩:=uT nH (by rw[XY]at h2;exact h2);cases e0;cases e1;cases e2;exact⟨⟨i,s.data.toList,t.data.toList⟩,by simp[Pt.cells,KK]⟩
theorem Qj{α:Type}[Inhabited α]{n:Nat}(F:Nat→α):∃l:List α,l.length=n∧∀i,i<n→l.getD i default=F i:=
 ⟨(List.range n).map F,by simp,fun i hi=>by simp[aN,hi]⟩
theorem XZ{a:dE}{len m c:Nat}(hm:len≤m)(hc0:0<c){G:Nat→Array bB}(hG:∀i,(G i).size=c)(h:∀i,i<m→w.cells? base (a.add (i*c)) c=some (G i).toList):
 ∀i,i<len→∃b off,some a=some ⟨b,off,none⟩∧∀j,j<c→w.cell? ⟨b,off+i*c+j,none⟩=some ((G i).getD j undef):=by
 intro i hi;obtain⟨-,-,k0⟩:=bi (h 0 (by omega));have k0:=k0 0 hc0;rw[Nat.zero_mul]at k0;have ha0:(a.add 0).add 0=a.add 0:=rfl;rw[ha0]at k0;have hs:∃v,(G 0).toList[0]? =some v:=⟨_,List.getElem?_eq_getElem (by simp[hG];omega)⟩;obtain⟨v,hv⟩:=hs;obtain⟨b,off,rfl⟩:=OE (k0.trans hv);refine⟨b,off,rfl,fun j hj=>?_⟩;obtain⟨-,-,ki⟩:=bi (h i (by omega));have:=ki j hj;rw[addp,addp]at this;rw[this];have oB:j<(G i).size:=by rw[hG];exact hj
 simp[oB]
theorem TM{fuel:Nat}{cs:List bB}{x:DataW H×List Nx}(h:mB enc aC w base (fun _=>true) yR fuel 22 cs=some x):
 ∃(a:Option dE)(n ca:Nat)(fs:List Fr),cs=[aB a n ca]∧fs.length=n∧n≤ca∧ca≤maxLen∧wP w a fs:=by
 rcases Go.Deep.open_slice underlying22 h with⟨rfl,-⟩|⟨a,len,cap,m,n,D,Pl,rfl,-,hl,hm,mj,-,hx⟩
 ·exact⟨none,0,0,[],rfl,rfl,aD _,by decide,fun i hi=>absurd hi (by simp)⟩
 ·rw[c_fr]at hx;obtain⟨F,hF⟩:=choose_lt (α:=Fr) (p:=fun i f=>w.cells? base (a.add (i*5)) 5=some f.cells.toList) (fun i hi=>by
   obtain⟨cs',h1,h2⟩:=hx i hi;obtain⟨f,rfl⟩:=Wg h2;exact⟨f,h1⟩)
  obtain⟨fs,h1,h2⟩:=Qj (n:=len) F;have hlm:len≤m:=by rw[mj];simp;exact hl
  refine⟨some a,len,cap,fs,rfl,h1,hl,hm,fun i hi=>?_⟩;obtain⟨b,off,e,hc⟩:=XZ (G:=fun i=>(F i).cells) hlm (by decide) (fun i=>rfl) hF i (by rw[←h1];exact hi);refine⟨b,off,e,fun j hj=>?_⟩;rw[hc j hj,h2 i (by rw[←h1];exact hi)]
theorem Wi{fuel:Nat}{cs:List bB}{x:DataW H×List Nx}(h:mB enc aC w base (fun _=>true) yR fuel 38 cs=some x):
 ∃l:Lp,cs=[l.v]∧Fg w l.a l.ps:=by
 rcases Go.Deep.open_slice underlying38 h with⟨rfl,-⟩|⟨a,len,cap,m,n,D,Pl,rfl,-,hl,hm,mj,-,hx⟩
 ·exact⟨⟨none,0,[]⟩,rfl,fun i hi=>absurd hi (by simp)⟩
 ·rw[c_pt]at hx;obtain⟨F,hF⟩:=choose_lt (α:=Pt) (p:=fun i f=>w.cells? base (a.add (i*3)) 3=some f.cells.toList) (fun i hi=>by
   obtain⟨cs',h1,h2⟩:=hx i hi;obtain⟨f,rfl⟩:=ak h2;exact⟨f,h1⟩)
  obtain⟨ps,h1,h2⟩:=Qj (n:=len) F;have hlm:len≤m:=by rw[mj];simp;exact hl
  refine⟨⟨some a,cap,ps⟩,by unfold Lp.v;rw[h1],fun i hi=>?_⟩;obtain⟨b,off,e,hc⟩:=XZ (G:=fun i=>(F i).cells) hlm (by decide) (fun i=>rfl) hF i (by rw[←h1];exact hi);refine⟨b,off,e,fun j hj=>?_⟩;rw[hc j hj];show _=some ((ps.getD i default).cells.getD j undef);rw[h2 i (by rw[←h1];exact hi)]
theorem Wj{fuel:Nat}{cs:List bB}{x:DataW H×List Nx}(h:mB enc aC w base (fun _=>true) yR fuel 23 cs=some x):
 ∃(b:Option dE)(m cb:Nat)(ls:List Lp),cs=[aB b m cb]∧ls.length=m∧m≤cb∧cb≤maxLen∧zP w b ls:=by
 rcases open_slice1 underlying23 c_ps h with⟨rfl,-⟩|⟨a,len,cap,m,n,V,D,Pl,rfl,-,hl,hm,mj,-,hx⟩
 ·exact⟨none,0,0,[],rfl,rfl,aD _,by decide,fun i hi=>absurd hi (by simp)⟩
 ·obtain⟨F,hF⟩:=choose_lt (α:=Lp) (p:=fun i l=>w.cell? (a.add i)=some l.v∧Fg w l.a l.ps) (fun i hi=>by
   obtain⟨h1,h2⟩:=hx i hi;obtain⟨l,e,h3⟩:=Wi h2;injection e with e;exact⟨l,by rw[h1,e],h3⟩)
  obtain⟨ls,h1,h2⟩:=Qj (n:=len) F;have hlm:len≤m:=by rw[mj];simp;exact hl
  refine⟨some a,len,cap,ls,rfl,h1,hl,hm,fun i hi=>?_⟩;have hi':i<len:=by rw[←h1];exact hi
  obtain⟨b,off,rfl⟩:=OE (hF 0 (by omega)).1;refine⟨b,off,rfl,?_,?_⟩
  ·rw[h2 i hi'];have:=(hF i (by omega)).1;rwa[addp]at this
  ·rw[h2 i hi'];exact(hF i (by omega)).2
end
end
end Go.Proofs.YtcimoodjlopdaaaGreatDoor
