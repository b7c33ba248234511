import Derived.Deep.RegionHeld3
import Derived.Test.YtcimoodjlopdaaaGreatDoorZ0
import Derived.Test.YtcimoodjlopdaaaGreatDoorZ14
namespace Go.Proofs.YtcimoodjlopdaaaGreatDoor
set_option maxRecDepth 100000
set_option maxHeartbeats 8000000
set_option linter.all false
open Go.Proofs.Tryz
open Bool renaming or_eq_false_iff->fM,and_eq_false_iff->UH
open Classical renaming byContradiction->fZ
open Go renaming World->aE,Calls->aQ,run_takeDeferred->gE,ownFrom_below->Bi
open Go.IntKind renaming i64->aG
open Go.KeepsOthers renaming setCell->cE
open Go.Lib renaming hasPrefix->Ba
open Go.Obj renaming cells->aL
open Go.OwnFrom renaming and->tE
open Go.Proofs.Tryz renaming prog->aC,isAgg29->pN,results32->QG,isAgg24->Wz
open Go.RowKit renaming Below->aJ,intOf->aK,Hid->aY
open Go.RowKit.Below renaming refl->aI,trans->iD
open Go.Value renaming string->aA,slice->aB,int->aF,bool->aM
open Go.World renaming size_alloc->aS
open List renaming getElem?_cons_zero->bD,getElem?_toArray->bJ
open Nat renaming le_refl->aD,pow_le_pow_right->bN,lt_of_lt_of_le->bQ,zero_le->bR,le_trans->cC,zero_add->gL
open Trans renaming trans->cL
section
open Go Go.RowKit Go.Shelf Go.Lib
section
attribute[local go_sem] Oper.semAt_some
theorem iG{B:Nat}{W:aE}{l:Nat}{o o':Obj}(hB:B≤l)(hl:W.heap[l]? =some o):aJ B W (W.putObj l o'):=
 (aI B W).grown (grownBy_putObj' W l o') (cC hB (Nat.le_of_lt (Array.getElem?_eq_some_iff.1 hl).1)) (fun k e=>by cases e;exact hB)
theorem Eb.putObj{B Bs n:Nat}(hB:B≤n)(hs:Bs<n)(W:aE)(l:Nat)(o o':Obj)(hl:n≤l)(h:W.heap[l]? =some o)(_:o.isCells=false)(_:o.isWalk=false):Eb B Bs W (W.putObj l o'):=
 ⟨iG (cC hB hl) h,fun k hk=>World.putObj_heap_other (by subst hk;omega)⟩
theorem L8(e:Nat→Int):∀n,∃N,N≤n∧(∀j,j+1<N→e j=0)∧(N<n→0<N∧e (N-1)≠0)∧(qK e n=0→N=n)
 |0=>⟨0,aD _,fun j h=>by omega,fun h=>by omega,fun _=>rfl⟩
 |n+1=>by
  obtain⟨N,h1,h2,h3,h4⟩:=L8 e n
  by_cases hs:N<n∨(0<n∧e (n-1)≠0)
  ·refine⟨N,by omega,h2,fun _=>?_,fun hf=>?_⟩
   ·rcases hs with hs|hs
    ·exact h3 hs
    ·by_cases c:N<n
     ·exact h3 c
     ·have:N=n:=by omega
      rw[this];exact hs
   ·have hall:=sQ hf
    rcases hs with hs|hs
    ·have k:=h3 hs
     exact absurd (hall (N-1) (by omega)) k.2
    ·exact absurd (hall (n-1) (by omega)) hs.2
  ·refine⟨n+1,aD _,fun j hj=>?_,fun h=>by omega,fun _=>rfl⟩
   have hN:N=n:=by omega
   by_cases c:j+1<N
   ·exact h2 j c
   ·refine fZ fun q=>hs (.inr ⟨by omega,?_⟩)
    rw[show n-1=j by omega];exact q
theorem Pz(a:Option Addr)(n cap:Nat)(ls:List (List UInt8))(w:aE)(hE:eZ w)(hn:ls.length=n)(hbig:n≤4096)(oB:∀k,k<n→(bs (ls.getD k [])).size≤8000000)(hc:rW w a (strs ls))(hz:C5 ls n=0):
 aQ aC 32 #[aB a n cap] w (Rt (.tuple #[aA (bs (mK ls).1),aF aG (mK ls).2]) w):=by
 have R0:aY (mK ls=if Cl ls n=0 then(oH ls n,0)else([],Cl ls n)):=by
  show _=_;rw[mK,hn,iN (by omega),ip hz]
 have b0:bZ ((w.alloc (aL #[aA {data:= #[]}] 24)).alloc (aL #[aF aG 0] 29)) w.heap.size #[aA {data:= #[]}] 24:=(bZ.new w _ _).alloc _
 have b1:bZ ((w.alloc (aL #[aA {data:= #[]}] 24)).alloc (aL #[aF aG 0] 29)) (w.heap.size+1) #[aF aG 0] 29:=by
  have:=bZ.new (w.alloc (aL #[aA {data:= #[]}] 24)) #[aF aG 0] 29
  rwa[aS]at this
 have fP:aJ w.heap.size w ((w.alloc (aL #[aA {data:= #[]}] 24)).alloc (aL #[aF aG 0] 29)):=((aI _ w).alloc (aD _) _).alloc (by simp) _
 have HC:aY (∀(k:Nat)(h:k<n)(W:aE)(hW:aJ w.heap.size w W),aQ aC 82 #[aA (bs (ls.getD k []))] W (Rt (aF aG 0) W)):=by
  intro k h W hW
  have:=DQ (bs (ls.getD k [])) W (hE.below hW) (oB k h)
  rwa[aX,show cQ (ls.getD k [])=0 from sQ hz k h]at this
 have HcB:=zq (fun(V:aE)(h:aJ w.heap.size w V)=>hc.below h)
 have HEB:=zq (fun(V:aE)(h:aJ w.heap.size w V)=>hE.below h)
 have Hc:=zq hc
 have Hn:=zq hn
 have yf:=zq oB
 have Hb:=zq (And.intro b0 (And.intro b1 fP))
 clear hc hn oB hE b0 b1 fP hz
 refine jT func32 rfl ?_
 simp only[ntmps32,List.size_toArray,List.length_cons,List.length_nil,Nat.reduceAdd,Nat.reduceSub,Array.replicate_succ,Array.replicate_zero,List.push_toArray,List.append_toArray,List.nil_append,List.cons_append]
 go_wp2
 go_loopw[15] (fun i wr=>∃k:Nat,i=aF aG k∧k≤n∧aJ w.heap.size w wr∧bZ wr w.heap.size #[aA {data:= #[]}] 24∧bZ wr (w.heap.size+1) #[aF aG 0] 29) (fun i _=>n-(aK i).toNat)
 case atStart=>exact⟨0,rfl,bR _,Hb.out.2.2,Hb.out.1,Hb.out.2.1⟩
 case round=>
  obtain⟨k,rfl,hk,hB,b0,b1⟩:=hrel
  have B0:=zq b0
  have B1:=zq b1
  by_cases hlt:k<n
  ·obtain⟨b,off,rfl,zK⟩:=Hc.out k (by rw[lS,Hn.out];exact hlt)
   rw[mR ls (by rw[Hn.out];exact hlt)]at zK
   have YR:=(hB.cell (p:=⟨b,off+k,none⟩) (World.block_lt_of_cell? w _ zK)).trans zK
   have Cm:=zq (HC.out k hlt)
   clear zK b0 b1
   generalize bs (ls.getD k [])=X at *
   go_wp2_with fail
   refine(Cm.out _ hB).mono ?_
   rintro e W1⟨rfl,hb1⟩
   go_wp2
   go_roundw
   case rel=>exact⟨k+1,by go_num,by omega,aH hB hb1 hB.size,B0.out.below hb1 B0.out.lt,B1.out.below hb1 B1.out.lt⟩
   case measure=>simp only[aK];omega
  ·obtain rfl:n=k:=by omega
   clear HC hlt hk Hc b0 b1 Hb
   obtain⟨N,hN,ta,Uq,hNe⟩:∃N,N≤n∧(∀j,j+1<N→eS ls j=0)∧(N<n→0<N∧eS ls (N-1)≠0)∧(Cl ls n=0→N=n):=by
    exact L8 (eS ls) n
   go_wp2_with fail
   refine(ju _ _ _ _).mono ?_
   rintro e w'⟨rfl,rfl⟩
   go_wp2_with fail
   obtain⟨W0,iU⟩:∃W0,(wr.alloc (aL #[aA {data:= #[48]}] 24)).alloc (aL #[aB a n cap] 47)=W0:=⟨_,rfl⟩
   have c0:bZ W0 w.heap.size #[aA {data:= #[]}] 24:=by rw[←iU];exact(B0.out.alloc _).alloc _
   have c1:bZ W0 (w.heap.size+1) #[aF aG 0] 29:=by rw[←iU];exact(B1.out.alloc _).alloc _
   have c7:bZ W0 wr.heap.size #[aA {data:= #[48]}] 24:=by rw[←iU];exact(bZ.new wr _ _).alloc _
   have c8:bZ W0 (wr.heap.size+1) #[aB a n cap] 47:=by
    rw[←iU]
    have:=bZ.new (wr.alloc (aL #[aA {data:= #[48]}] 24)) #[aB a n cap] 47
    rwa[aS]at this
   have Dx:=B1.out.lt
   have Yt:W0.heap.size=wr.heap.size+2:=by rw[←iU];simp
   have fP:aJ w.heap.size w W0:=by rw[←iU];exact(hB.alloc hB.size _).alloc (by simp;omega) _
   rw[iU]
   clear iU hB B0 B1
   generalize wr.heap.size=g at *
   refine L7 (gf:=150) (lb:= #[.pointer (some ⟨g+1,0,none⟩)]) rfl (enters_of func150 (by kernel_rfl) rfl)
    (js (g+1) w.heap.size a n cap ls N Hn.out (by omega) yf.out hN ta Uq W0 (by omega) (by omega) (fun V h=>HEB.out V (fP.trans h)) (fun V h=>HcB.out V (fP.trans h)) (c8.cell 0))
    Eb.trans (Eb.putObj (by omega) (by omega)) (fun _=>rfl)
    (fun k W=>(aY (Cl ls k=0)∧bZ W w.heap.size #[aA {data:= #[]}] 24∧bZ W (w.heap.size+1) #[aF aG 0] 29∧bZ W g #[aA (bs (oH ls k))] 24)∧aJ w.heap.size w W)
    (fun c _ W=>(c=.ret∧∃cc,mK ls=([],cc)∧bZ W w.heap.size #[aA {data:= #[]}] 24∧bZ W (w.heap.size+1) #[aF aG cc] 29)∧aJ w.heap.size w W)
    (tE (Own.from (fun s A B uJ hs hg hr=>⟨hs.1,hs.2.1.own hg hr,hs.2.2.1.own hg hr,hs.2.2.2.own hg hr⟩) _) (Bi (aD _) (by omega)))
    (fun c=>tE (Own.from (fun s A B uJ hs hg hr=>by obtain⟨h1,v,h2,h3,h4⟩:=hs;exact⟨h1,v,h2,h3.own hg hr,h4.own hg hr⟩) _) (Bi (aD _) (by omega)))
    ⟨⟨rfl,c0,c1,c7⟩,fP⟩
    ?rF ?assign ?body ?done ?stop
   case assign=>
    intro l k W K hK
    gi_wp2
    exact hK
   case body=>
    rintro l k W hk⟨⟨he,b0,b1,b7⟩,hB⟩
    have k0:=b0.cell 0
    have k1:=b1.cell 0
    have k7:=b7.cell 0
    have f0:=b0.fz 0
    have f1:=b1.fz 0
    have f7:=b7.fz 0
    have l0:=b0.lt
    have l1:=b1.lt
    have l7:=b7.lt
    simp only[bJ,bD]at k0 k1 k7
    have Hb0:=zq b0
    have Hb1:=zq b1
    have Hb7:=zq b7
    obtain⟨c,hc⟩:∃c,eS ls k=c:=⟨_,rfl⟩
    have he2:aY (c=0→Cl ls (k+1)=0):=fun h=>sP he.out (hc.trans h)
    have hR:aY (c≠0→mK ls=([],c)):=by
     intro h
     have e:Cl ls n=c:=(wD he.out (by show eS ls k≠0;rw[hc];exact h) n (by omega)).trans hc
     rw[R0.out,e,iN h]
    rw[hc]
    clear hc b0 b1 b7 c0 c1 c7 c8
    obtain⟨Y,hY⟩:∃Y,bs (oH ls (k+1))=Y:=⟨_,rfl⟩
    rw[hY]
    have HY:=zq hY
    clear hY
    generalize bs (oH ls k)=Z at *
    by_cases h0:c=0
    ·have he3:=zq (he2.out h0)
     subst h0
     gi_wp2
     exact⟨(cE _ _ _).from _,⟨(aI _ _).setCell (by show w.heap.size≤g;omega) _,dA.setCell (by rintro k rfl;show g+1≠g;omega) _⟩,
      ⟨he3.out,Hb0.out.other _ (by show w.heap.size≠g;omega),Hb1.out.other _ (by show w.heap.size+1≠g;omega),by rw[HY.out];exact Hb7.out.set 0 _⟩,hB.setCell (by show w.heap.size≤g;omega) _⟩
    ·have hc':(c !=0)=true:=by rw[bne_iff_ne];exact h0
     have Uw:=zq (hR.out h0)
     clear h0 hR he2
     gi_wp2
     exact⟨((cE _ _ _).from _).trans ((cE _ _ _).from _),⟨rfl,c,Uw.out,(Hb0.out.set 0 _).other _ (by show w.heap.size≠w.heap.size+1;omega),(Hb1.out.other _ (by show w.heap.size+1≠w.heap.size;omega)).set 0 _⟩,
      (hB.setCell (by exact aD _) _).setCell (by show w.heap.size≤w.heap.size+1;omega) _⟩
   case done=>
    rintro D W hD⟨⟨he,b0,b1,b7⟩,hB⟩hK
    have hNn:N=n:=by
     refine fZ fun q=>?_
     obtain⟨p1,p2⟩:=Uq (by omega)
     exact p2 (sQ he.out (N-1) (by omega))
    subst hNn
    have R:aY (mK ls=(oH ls N,0)):=by show _=_;rw[R0.out,ip he.out]
    have k0:=b0.cell 0
    have k1:=b1.cell 0
    have k7:=b7.cell 0
    have f0:=b0.fz 0
    have f1:=b1.fz 0
    have l0:=b0.lt
    have l1:=b1.lt
    simp only[bJ,bD]at k0 k1 k7
    have Hb0:=zq b0
    have Hb1:=zq b1
    have HK:=zq hK
    clear b0 b1 b7 c0 c1 c7 c8 he hN ta Uq hNe hK R0
    obtain⟨Z,hZ⟩:∃Z,bs (oH ls N)=Z:=⟨_,rfl⟩
    rw[hZ]at k7
    have HZ:=zq hZ
    clear hZ
    go_wp2
    have hK1:=(cE W ⟨w.heap.size,0,none⟩ (aA Z)).same D _ HK.out rfl
    have hK2:=(cE _ ⟨w.heap.size+1,0,none⟩ (aF aG 0)).same D _ hK1 rfl
    refine⟨by simp,.inl ⟨_,_,rfl,gE hK2,?_⟩⟩
    refine⟨_,fF QG _ _ w.heap.size (w.heap.size+1) (aA Z) (aF aG 0) rfl rfl ?_ ?_ Wz pN,by rw[R.out,HZ.out],?_⟩
    ·exact(((Hb0.out.set 0 _).other _ (by show w.heap.size≠w.heap.size+1;omega)).putObj _ hK2 rfl).cell 0
    ·exact(((Hb1.out.other _ (by show w.heap.size+1≠w.heap.size;omega)).set 0 _).putObj _ hK2 rfl).cell 0
    ·exact((hB.setCell (by exact aD _) _).setCell (by show w.heap.size≤w.heap.size+1;omega) _).trans (iG (by omega) hK2)
   case stop=>
    rintro D c k W hD hk⟨⟨rfl,v,hv,b0,b1⟩,hB⟩hK
    have R:=zq hv
    have Hb0:=zq b0
    have Hb1:=zq b1
    have HK:=zq hK
    clear hv b0 b1 c0 c1 c7 c8 hN ta Uq hNe hK R0
    go_wp2
    refine⟨by simp,.inl ⟨_,_,rfl,gE HK.out,?_⟩⟩
    refine⟨_,fF QG _ _ w.heap.size (w.heap.size+1) (aA {data:= #[]}) (aF aG v) rfl rfl ?_ ?_ Wz pN,by rw[R.out];rfl,?_⟩
    ·exact(Hb0.out.putObj _ HK.out rfl).cell 0
    ·exact(Hb1.out.putObj _ HK.out rfl).cell 0
    ·exact hB.trans (iG (by omega) HK.out)
theorem yw(a:Option Addr)(n cap:Nat)(ls:List (List UInt8))(w:aE)(hE:eZ w)(hn:ls.length=n)(hx:n≤9223372036854775807)(oB:∀k,k<n→(bs (ls.getD k [])).size≤8000000)(hc:rW w a (strs ls)):
 aQ aC 32 #[aB a n cap] w (Rt (.tuple #[aA (bs (mK ls).1),aF aG (mK ls).2]) w):=by
 by_cases h:4096<n∨C5 ls n≠0
 ·exact Sx a n cap ls w hE hn hx oB hc h
 ·exact Pz a n cap ls w hE hn (by omega) oB hc (by omega)
end
end
section
open Go Go.RowKit Go.Lib
theorem fr_add(a b:ByteArray)(w:aE)(hE:eZ w)(ha:a.size≤8000000)(hb:b.size≤8000000):
 aQ aC 181 #[aA a,aA b] w (Rt (aA (bs (tN a.data.toList b.data.toList).1)) w):=by
 have H:=zq (Xr a b w hE ha hb);clear hE ha hb;generalize tN a.data.toList b.data.toList=T at *;go_enter func181,ntmps181;go_wp2_with fail
 refine H.out.mono ?_;rintro e W1⟨rfl,hb1⟩;go_wp2;go_ret;exact⟨rfl,hb1⟩
theorem fr_sub(a b:ByteArray)(w:aE)(hE:eZ w)(ha:a.size≤8000000)(hb:b.size≤8000000):
 aQ aC 184 #[aA a,aA b] w (Rt (aA (bs (tO a.data.toList b.data.toList).1)) w):=by
 have H:=zq (Xs a b w hE ha hb);clear hE ha hb;generalize tO a.data.toList b.data.toList=T at *;go_enter func184,ntmps184;go_wp2_with fail
 refine H.out.mono ?_;rintro e W1⟨rfl,hb1⟩;go_wp2;go_ret;exact⟨rfl,hb1⟩
theorem fr_mul(a b:ByteArray)(w:aE)(hE:eZ w)(ha:a.size≤8000000)(hb:b.size≤8000000):
 aQ aC 182 #[aA a,aA b] w (Rt (aA (bs (lF a.data.toList b.data.toList).1)) w):=by
 have H:=zq (Xt a b w hE ha hb);clear hE ha hb;generalize lF a.data.toList b.data.toList=T at *;go_enter func182,ntmps182;go_wp2_with fail
 refine H.out.mono ?_;rintro e W1⟨rfl,hb1⟩;go_wp2;go_ret;exact⟨rfl,hb1⟩
theorem fr_div(a b:ByteArray)(w:aE)(hE:eZ w)(ha:a.size≤8000000)(hb:b.size≤8000000):
 aQ aC 218 #[aA a,aA b] w (Rt (aA (bs (qH a.data.toList b.data.toList).1)) w):=by
 have H:=zq (Xu a b w hE ha hb);clear hE ha hb;generalize qH a.data.toList b.data.toList=T at *;go_enter func218,ntmps218;go_wp2_with fail
 refine H.out.mono ?_;rintro e W1⟨rfl,hb1⟩;go_wp2;go_ret;exact⟨rfl,hb1⟩
theorem yx(a b:ByteArray)(w:aE)(hE:eZ w)(ha:a.size≤8000000)(hb:b.size≤8000000):
 aQ aC 193 #[aA a,aA b] w (Rt (aA (bs (tN a.data.toList b.data.toList).1)) w):=by
 have H:=zq (xd a b w hE (jH ha) (jH hb));clear hE ha hb;generalize tN a.data.toList b.data.toList=T at *;go_enter func193,ntmps193;go_wp2_with fail
 refine H.out.mono ?_;rintro e W1⟨rfl,hb1⟩;go_wp2;go_ret;exact⟨rfl,hb1⟩
theorem yy(a b:ByteArray)(w:aE)(hE:eZ w)(ha:a.size≤8000000)(hb:b.size≤8000000):
 aQ aC 162 #[aA a,aA b] w (Rt (aA (bs (tO a.data.toList b.data.toList).1)) w):=by
 have H:=zq (Xc a b w hE (jH ha) (jH hb));clear hE ha hb;generalize tO a.data.toList b.data.toList=T at *;go_enter func162,ntmps162;go_wp2_with fail
 refine H.out.mono ?_;rintro e W1⟨rfl,hb1⟩;go_wp2;go_ret;exact⟨rfl,hb1⟩
theorem yz(a b:ByteArray)(w:aE)(hE:eZ w)(ha:a.size≤8000000)(hb:b.size≤8000000):
 aQ aC 192 #[aA a,aA b] w (Rt (aA (bs (lF a.data.toList b.data.toList).1)) w):=by
 have H:=zq (Xe a b w hE (jH ha) (jH hb));clear hE ha hb;generalize lF a.data.toList b.data.toList=T at *;go_enter func192,ntmps192;go_wp2_with fail
 refine H.out.mono ?_;rintro e W1⟨rfl,hb1⟩;go_wp2;go_ret;exact⟨rfl,hb1⟩
theorem za(a b:ByteArray)(w:aE)(hE:eZ w)(ha:a.size≤8000000)(hb:b.size≤8000000):
 aQ aC 164 #[aA a,aA b] w (Rt (aA (bs (qH a.data.toList b.data.toList).1)) w):=by
 have H:=zq (Xf a b w hE (jH ha) (jH hb));clear hE ha hb;generalize qH a.data.toList b.data.toList=T at *;go_enter func164,ntmps164;go_wp2_with fail
 refine H.out.mono ?_;rintro e W1⟨rfl,hb1⟩;go_wp2;go_ret;exact⟨rfl,hb1⟩
theorem L9(a b:ByteArray)(w:aE)(hE:eZ w)(ha:a.size≤8000000)(hb:b.size≤8000000):
 aQ aC 114 #[aA a,aA b] w (Rt (aF aG (gY a.data.toList b.data.toList).1) w):=by
 have H:=zq (JI a b w hE ha hb);clear hE ha hb;generalize gY a.data.toList b.data.toList=T at *;go_enter func114,ntmps114;go_wp2_with fail
 refine H.out.mono ?_;rintro e W1⟨rfl,hb1⟩;go_wp2;go_ret;exact⟨rfl,hb1⟩
theorem C7(a b:ByteArray)(w:aE)(hE:eZ w)(ha:a.size≤8000000)(hb:b.size≤8000000):
 aQ aC 127 #[aA a,aA b] w (Rt (aF aG (gY a.data.toList b.data.toList).1) w):=by
 have H:=zq (JA a b w hE (jH ha) (jH hb));clear hE ha hb;generalize gY a.data.toList b.data.toList=T at *;go_enter func127,ntmps127;go_wp2_with fail
 refine H.out.mono ?_;rintro e W1⟨rfl,hb1⟩;go_wp2;go_ret;exact⟨rfl,hb1⟩
theorem rX(a b:ByteArray)(w:aE)(hE:eZ w)(ha:a.size≤8000000)(hb:b.size≤8000000):
 aQ aC 38 #[aA a,aA b] w (Rt (aF aG (gY a.data.toList b.data.toList).1) w):=by
 have H:=zq (JI a b w hE ha hb);clear hE ha hb;generalize gY a.data.toList b.data.toList=T at *;go_enter func38,ntmps38;go_wp2_with fail
 refine H.out.mono ?_;rintro e W1⟨rfl,hb1⟩;go_wp2;go_ret;exact⟨rfl,hb1⟩
theorem A0(a b:ByteArray)(w:aE)(hE:eZ w)(ha:a.size≤8000000)(hb:b.size≤8000000):
 aQ aC 48 #[aA a,aA b] w (Rt (aF aG (gY a.data.toList b.data.toList).1) w):=by
 have H:=zq (JA a b w hE (jH ha) (jH hb));clear hE ha hb;generalize gY a.data.toList b.data.toList=T at *;go_enter func48,ntmps48;go_wp2_with fail
 refine H.out.mono ?_;rintro e W1⟨rfl,hb1⟩;go_wp2;go_ret;exact⟨rfl,hb1⟩
theorem GN(n:Int)(w:aE)(hE:eZ w)(hn:n.natAbs<10^18):
 aQ aC 180 #[aF aG n] w (Rt (aA (bs (aV (n:Rat)))) w):=by
 have H:=zq (ym n w hE hn);clear hE hn;generalize aV (n:Rat)=T at *;go_enter func180,ntmps180;go_wp2_with fail
 refine H.out.mono ?_;rintro e W1⟨rfl,hb1⟩;go_wp2;go_ret;exact⟨rfl,hb1⟩
theorem jv(n:Int)(w:aE)(hE:eZ w)(hn:n.natAbs<10^18):
 aQ aC 191 #[aF aG n] w (Rt (aA (bs (aV (n:Rat)))) w):=by
 have H:=zq (wy n w (by omega) (by omega));clear hE hn;generalize aV (n:Rat)=T at *;go_enter func191,ntmps191;go_wp2_with fail
 refine H.out.mono ?_;rintro e W1⟨rfl,hb1⟩;go_wp2;go_ret;exact⟨rfl,hb1⟩
def long36(s:List UInt8):Bool:=decide (36<(mag (nS s)).length)||decide (36<(dT s).length)
def dR(s:List UInt8):Int:=if cQ s=0 then(if long36 s=true then 4 else 0)else cQ s
theorem N8{s:List UInt8}(h:cQ s=0):yP s=(nS s,dT s,0):=by rw[yP,ip h]
theorem Ma{s:List UInt8}(h:cQ s≠0):yP s=([],[],cQ s):=by rw[yP,iN h]
theorem Sy{s:List UInt8}(h:cQ s=0):0<(bs (nS s)).size∧(dY (bs (nS s))=true→(bs (nS s)).extract 1 (bs (nS s)).size=bs (mag (nS s)))∧(dY (bs (nS s))=false→bs (nS s)=bs (mag (nS s))):=by
 have h1:=(jZ (qG h).1).1;have h2:=uX h1;obtain⟨c1,c2⟩:=Xi (bs (nS s));rw[aX]at c1 c2;exact⟨by rw[bU];omega,fun e=>(c1 e).1,c2⟩
theorem d36(n:Nat):decide (36<n)=decide ((36:Int)<(n:Int)):=decide_eq_decide.2 (by omega)
theorem d36'(n:Nat):(!decide (36<n))=decide ((n:Int)≤36):=by rw[←decide_not];exact decide_eq_decide.2 (by omega)
theorem Mb(a:ByteArray)(w:aE)(hE:eZ w)(ha:a.size≤8000000):
 aQ aC 126 #[aA a] w (Rt (aM (decide (dR a.data.toList=4∧cQ a.data.toList=0))) w):=by
 have H:=zq (NQ a w hE (jH ha));by_cases h:cQ a.data.toList=0
 ·obtain⟨g1,g2,g3⟩:=Sy h;rw[N8 h]at H;have R:aY (decide (dR a.data.toList=4∧cQ a.data.toList=0)=long36 a.data.toList):=by
   show _=_;rw[dR,ip h];by_cases k:long36 a.data.toList=true
   ·rw[ip k,k];simp[h]
   ·rw[iN k];simp[k]
  unfold long36 at R;have e1:(mag (nS a.data.toList)).length=(bs (mag (nS a.data.toList))).size:=(bU _).symm;have e2:(dT a.data.toList).length=(bs (dT a.data.toList)).size:=(bU _).symm;rw[e1,e2,d36,d36]at R;rw[pE _ g1]at g2 g3;clear hE ha h e1 e2;generalize bs (nS a.data.toList)=N at *;generalize bs (mag (nS a.data.toList))=M at *;generalize bs (dT a.data.toList)=D at *;have h1:(1:Int)≤(N.size:Int):=by omega
  by_cases hn:((N[0].toNat:Int)==45)=true;case' pos=>have c:=g2 hn;clear g2 g3
  case' neg=>obtain rfl:M=N:=(g3 (by simpa using hn)).symm;clear g2 g3
  all_goals
   by_cases hM:(36:Int)<(M.size:Int);case' pos=>have R2:aY (decide ((36:Int)<(M.size:Int))=true):=decide_eq_true hM
   case' neg=>have R2:aY (decide ((36:Int)<(M.size:Int))=false):=decide_eq_false hM
   all_goals
    go_enter func126,ntmps126;go_wp2_with fail
    refine H.out.mono ?_;rintro e W1⟨rfl,hb1⟩;go_wp2;go_ret;exact⟨by rw[R.out,R2.out];rfl,hb1⟩
 ·have R:aY (decide (dR a.data.toList=4∧cQ a.data.toList=0)=false):=decide_eq_false fun e=>h e.2;rw[Ma h]at H;generalize cQ a.data.toList=c at *;go_enter func126,ntmps126;go_wp2_with fail
  refine H.out.mono ?_;rintro e W1⟨rfl,hb1⟩;go_wp2;go_ret;exact⟨by rw[R.out];rfl,hb1⟩
theorem IH(a:ByteArray)(w:aE)(hE:eZ w)(ha:a.size≤8000000):
 aQ aC 52 #[aA a] w (Rt (aM (decide (dR a.data.toList=0))) w):=by
 have H:=zq (NQ a w hE (jH ha));by_cases h:cQ a.data.toList=0
 ·obtain⟨g1,g2,g3⟩:=Sy h;rw[N8 h]at H;have R:aY (decide (dR a.data.toList=0)= !long36 a.data.toList):=by
   show _=_;rw[dR,ip h];by_cases k:long36 a.data.toList=true
   ·rw[ip k,k];simp
   ·rw[iN k];simp[k]
  unfold long36 at R;have e1:(mag (nS a.data.toList)).length=(bs (mag (nS a.data.toList))).size:=(bU _).symm;have e2:(dT a.data.toList).length=(bs (dT a.data.toList)).size:=(bU _).symm;rw[e1,e2,Bool.not_or,d36',d36']at R;rw[pE _ g1]at g2 g3;clear hE ha h e1 e2;generalize bs (nS a.data.toList)=N at *;generalize bs (mag (nS a.data.toList))=M at *;generalize bs (dT a.data.toList)=D at *;have h1:(1:Int)≤(N.size:Int):=by omega
  by_cases hn:((N[0].toNat:Int)==45)=true;case' pos=>have c:=g2 hn;clear g2 g3
  case' neg=>obtain rfl:M=N:=(g3 (by simpa using hn)).symm;clear g2 g3
  all_goals
   by_cases hM:(M.size:Int)≤36;case' pos=>have R2:aY (decide ((M.size:Int)≤36)=true):=decide_eq_true hM
   case' neg=>have R2:aY (decide ((M.size:Int)≤36)=false):=decide_eq_false hM
   all_goals
    go_enter func52,ntmps52;go_wp2_with fail
    refine H.out.mono ?_;rintro e W1⟨rfl,hb1⟩;go_wp2;go_ret;exact⟨by rw[R.out,R2.out];rfl,hb1⟩
 ·have R:aY (decide (dR a.data.toList=0)=false):=decide_eq_false fun e=>h (by rwa[dR,iN h]at e);rw[Ma h]at H;have h':(cQ a.data.toList !=0)=true:=by rw[bne_iff_ne];exact h
  generalize cQ a.data.toList=c at *;go_enter func52,ntmps52;go_wp2_with fail
  refine H.out.mono ?_;rintro e W1⟨rfl,hb1⟩;go_wp2;go_ret;exact⟨by rw[R.out];rfl,hb1⟩
theorem Vw(a:ByteArray)(w:aE)(hE:eZ w)(ha:a.size≤8000000):
 aQ aC 190 #[aA a] w (Rt (aF aG (dR a.data.toList)) w):=by
 have HC:=zq (sK a w hE (jH ha));have HL:=zq (fun(W:aE)(h:aJ w.heap.size w W)=>Mb a W (hE.below h) ha);clear hE;by_cases h:cQ a.data.toList=0
 ·rw[h]at HC;have R:aY (dR a.data.toList=if long36 a.data.toList=true then 4 else 0):=ip h;have e:decide (dR a.data.toList=4∧cQ a.data.toList=0)=long36 a.data.toList:=by
   rw[R.out,h];by_cases k:long36 a.data.toList=true<;>simp[k]
  rw[h]at e;rw[h,e]at HL;clear h e ha;cases k:long36 a.data.toList;all_goals
   rw[k]at R HL;clear k;go_enter func190,ntmps190;go_wp2_with fail
   refine HC.out.mono ?_;rintro e W1⟨rfl,hb1⟩;go_wp2_with fail
   refine(HL.out _ hb1).mono ?_;rintro e W2⟨rfl,hb2⟩;go_wp2;go_ret;exact⟨by rw[R.out];rfl,aH hb1 hb2 hb1.size⟩
 ·have R:aY (dR a.data.toList=cQ a.data.toList):=iN h;have h':(cQ a.data.toList !=0)=true:=by rw[bne_iff_ne];exact h
  clear HL;generalize cQ a.data.toList=c at *;clear h ha;go_enter func190,ntmps190;go_wp2_with fail
  refine HC.out.mono ?_;rintro e W1⟨rfl,hb1⟩;go_wp2;go_ret;exact⟨by rw[R.out];rfl,hb1⟩
theorem Vx{l:List UInt8}(h:l.all dG=true):mag l=l:=by
 cases l with
 |nil=>rfl
 |cons c r=>
  rw[List.all_cons,Bool.and_eq_true]at h;have:c≠45:=by rintro rfl;exact absurd h.1 (by decide)
  simp[mag,this]
theorem dT_mag{s:List UInt8}(h:cQ s=0):mag (dT s)=dT s:=by
 refine Vx ?_;unfold dT;split
 ·exact kH ((jZ (qG h).1).2 ‹_›).1
 ·decide
theorem N9(s:List UInt8)(w:aE):
 aQ aC 178 #[aA (bs s)] w fun e w'=>e=.returned (aF aG ((mag s).length:Int))∧w=w':=by
 have HT:=zq (pX (bs s) {data:= #[45]} w);rw[show(bs s).data.toList=s from rfl,show({data:= #[45]}:ByteArray).data.toList=[45]from rfl,pZ]at HT;have R:aY (((mag s).length:Int)=((bs (mag s)).size:Int)):=by show _=_;rw[bU]
 generalize bs (mag s)=M at *;go_enter func178,ntmps178;go_wp2_with fail
 refine HT.out.mono ?_;rintro e W1⟨rfl,rfl⟩;go_wp2;go_ret;exact⟨by rw[R.out];rfl,rfl⟩
theorem max36(m d:Nat):(36:Int)<max (m:Int) (d:Int)↔(decide (36<m)||decide (36<d))=true:=by
 rw[Bool.or_eq_true,decide_eq_true_eq,decide_eq_true_eq];omega
theorem Oa(a:ByteArray)(w:aE)(hE:eZ w)(ha:a.size≤8000000):
 aQ aC 121 #[aA a] w (Rt (aF aG (dR a.data.toList)) w):=by
 have HC:=zq (DQ a w hE ha);have HP:=zq (fun(W:aE)(h:aJ w.heap.size w W)=>N5 a W (hE.below h) ha);clear hE;by_cases h:cQ a.data.toList=0
 ·rw[h]at HC;rw[rN,ip h,rD,ip h,h]at HP;have Fb:=zq (fun W=>N9 (nS a.data.toList) W);have Ew:=zq (fun W=>N9 (dT a.data.toList) W);rw[dT_mag h]at Ew;have R:aY (dR a.data.toList=if long36 a.data.toList=true then 4 else 0):=ip h;have hm:=max36 (mag (nS a.data.toList)).length (dT a.data.toList).length;unfold long36 at R;generalize(mag (nS a.data.toList)).length=m at *;generalize(dT a.data.toList).length=d at *;obtain⟨K,hK⟩:∃K,max (m:Int) (d:Int)=K:=⟨_,rfl⟩;rw[hK]at hm;generalize bs (nS a.data.toList)=N at *;generalize bs (dT a.data.toList)=D at *;clear h ha;by_cases k:(36:Int)<K;case' pos=>rw[ip (hm.1 k)]at R
  case' neg=>rw[iN (mt hm.2 k)]at R
  all_goals
   clear hm;go_enter func121,ntmps121;go_wp2_with fail
   refine HC.out.mono ?_;rintro e W1⟨rfl,hb1⟩;go_wp2_with fail
   refine(HP.out _ hb1).mono ?_;rintro e W2⟨rfl,hb2⟩;have hB:=aH hb1 hb2 hb1.size;go_wp2_with fail
   refine(Fb.out _).mono ?_;rintro e W3⟨rfl,rfl⟩;go_wp2_with fail
   refine(Ew.out _).mono ?_;rintro e W3⟨rfl,rfl⟩;go_wp2;go_ret;exact⟨by rw[R.out];rfl,hB⟩
 ·have R:aY (dR a.data.toList=cQ a.data.toList):=iN h;have h':(cQ a.data.toList !=0)=true:=by rw[bne_iff_ne];exact h
  clear HP;generalize cQ a.data.toList=c at *;clear h ha;go_enter func121,ntmps121;go_wp2_with fail
  refine HC.out.mono ?_;rintro e W1⟨rfl,hb1⟩;go_wp2;go_ret;exact⟨by rw[R.out];rfl,hb1⟩
theorem GO(a:ByteArray)(w:aE)(hE:eZ w)(ha:a.size≤8000000):
 aQ aC 47 #[aA a] w (Rt (aF aG (dR a.data.toList)) w):=by
 have HP:=zq (N5 a w hE ha);clear hE;by_cases h:cQ a.data.toList=0
 ·rw[rN,ip h,rD,ip h,h]at HP;have HT:=zq (fun W=>pX (bs (nS a.data.toList)) {data:= #[45]} W);rw[show(bs (nS a.data.toList)).data.toList=nS a.data.toList from rfl,show({data:= #[45]}:ByteArray).data.toList=[45]from rfl,pZ]at HT;have R:aY (dR a.data.toList=if long36 a.data.toList=true then 4 else 0):=ip h;have hm:=max36 (bs (mag (nS a.data.toList))).size (bs (dT a.data.toList)).size;rw[bU,bU]at hm;unfold long36 at R;obtain⟨K,hK⟩:∃K,max ((bs (mag (nS a.data.toList))).size:Int) ((bs (dT a.data.toList)).size:Int)=K:=⟨_,rfl⟩;rw[bU,bU]at hK;rw[hK]at hm;rw[←bU,←bU (dT a.data.toList)]at hK;have hR:(36:Int)<K→aY (dR a.data.toList=4):=fun k=>by show _=_;rw[R.out,ip (hm.1 k)]
  have Uw:¬(36:Int)<K→aY (dR a.data.toList=0):=fun k=>by show _=_;rw[R.out,iN (mt hm.2 k)]
  clear hm R;generalize bs (nS a.data.toList)=N at *;generalize bs (mag (nS a.data.toList))=M at *;generalize bs (dT a.data.toList)=D at *;clear h ha;by_cases k:(36:Int)<K;case' pos=>have R:=hR k
  case' neg=>have R:=Uw k
  all_goals
   clear hR Uw;go_enter func47,ntmps47;go_wp2_with fail
   refine HP.out.mono ?_;rintro e W1⟨rfl,hb1⟩;go_wp2_with fail
   refine(HT.out _).mono ?_;rintro e W3⟨rfl,rfl⟩;go_wp2;go_ret;exact⟨by rw[R.out];rfl,hb1⟩
 ·have R:aY (dR a.data.toList=cQ a.data.toList):=iN h;have h':(cQ a.data.toList !=0)=true:=by rw[bne_iff_ne];exact h
  generalize cQ a.data.toList=c at *;generalize bs (rN a.data.toList)=N at *;generalize bs (rD a.data.toList)=D at *;clear h ha;go_enter func47,ntmps47;go_wp2_with fail
  refine HP.out.mono ?_;rintro e W1⟨rfl,hb1⟩;go_wp2;go_ret;exact⟨by rw[R.out];rfl,hb1⟩
structure Fr where
 up:Bool
 co:Int
 dir:Int
 sp:List UInt8
 st:List UInt8
abbrev Fr.cells(f:Fr):Array Value:= #[aM f.up,aF aG f.co,aF aG f.dir,aA (bs f.sp),aA (bs f.st)]
abbrev Fr.v(f:Fr):Value:=.agg f.cells
def yU(f:Fr):Bool:=decide (f.co<0)||decide (65536<f.co)||(decide (f.dir≠1)&&decide (f.dir≠-1))
def xN(f:Fr):Int:=
 if yU f=true then 2 else if cQ f.sp≠0 then cQ f.sp else if cQ f.st≠0 then cQ f.st else if(long36 f.sp||long36 f.st)=true then 4 else if(cF f.sp).num<0 then 2 else 0
theorem Ob{s:List UInt8}(h:cQ s=0)(hl:long36 s=false):HQ 36 (cF s):=by
 obtain⟨e1,e2⟩:=rU h;obtain⟨k1,k2⟩:=jZ (qG h).1;unfold long36 at hl;rw[fM,decide_eq_false_iff_not,decide_eq_false_iff_not]at hl;refine⟨?_,?_⟩
 ·rw[e1,qN,gR];exact bQ (nM _ (kE k1)) (bN (by decide) (by omega))
 ·rw[e2];have hd:=hl.2;unfold dT at hd;unfold qD;by_cases k:tM s=true
  ·rw[ip k]at hd⊢;exact bQ (nM _ (kH (k2 k).1)) (bN (by decide) (by omega))
  ·rw[iN k];exact bQ (by decide:1<10^1) (bN (by decide) (by decide))
theorem Xw:HQ 1 (0:Rat):=HQ.int (n:=0) (by decide) (by decide)
theorem Zh:cF [48]=0:=by rw[←sL,kT]
theorem Zi(x:Rat):mJ x 0=uO x.num:=by
 rw[CN,show(0:Rat).num=0 from rfl,show(0:Rat).den=1 from rfl];congr 1;simp
theorem Zj{s:List UInt8}(h:cQ s=0)(hl:long36 s=false):gY s [48]=(uO (cF s).num,0):=by
 rw[gY,ip (by rw[dZ,ip h];exact N7),Zh,ip (oG (Ob h hl) Xw (by decide)),Zi]
theorem zb(n:Int):decide (uO n<0)=decide (n<0):=by
 unfold uO;by_cases h:n<0
 ·rw[ip h];simp[h]
 ·rw[iN h];by_cases k:0<n<;>simp[h,k]
theorem BN(a b:Int):(a !=b)=decide (a≠b):=by by_cases h:a=b<;>simp[h]
theorem Sz{s:List UInt8}(h:cQ s=0):decide (dR s=4∧cQ s=0)=long36 s:=by
 rw[dR,ip h];by_cases k:long36 s=true
 ·rw[ip k,k];simp[h]
 ·rw[iN k];simp[k]
theorem Oc(f:Fr)(w:aE)(hE:eZ w)(h1:f.sp.length≤8000000)(h2:f.st.length≤8000000):
 aQ aC 69 #[f.v] w (Rt (aF aG (xN f)) w):=by
 obtain⟨up,co,dir,sp,st⟩:=f;have R0:aY (∀b,yU ⟨up,co,dir,sp,st⟩=b→xN ⟨up,co,dir,sp,st⟩=if b=true then 2 else if cQ sp≠0 then cQ sp else if cQ st≠0 then cQ st else if(long36 sp||long36 st)=true then 4 else if(cF sp).num<0 then 2 else 0):=by
  intro b h;subst h;rfl
 have H1:=zq (fun(W:aE)(h:aJ w.heap.size w W)=>sK (bs sp) W (hE.below h) (jH (by rw[bU];exact h1)));have H2:=zq (fun(W:aE)(h:aJ w.heap.size w W)=>sK (bs st) W (hE.below h) (jH (by rw[bU];exact h2)));have L1:=zq (fun(W:aE)(h:aJ w.heap.size w W)=>Mb (bs sp) W (hE.below h) (by rw[bU];exact h1));have L2:=zq (fun(W:aE)(h:aJ w.heap.size w W)=>Mb (bs st) W (hE.below h) (by rw[bU];exact h2));have HC:=zq (fun(W:aE)(h:aJ w.heap.size w W)=>C7 (bs sp) {data:= #[48]} W (hE.below h) (by rw[bU];exact h1) (by decide));rw[aX]at H1 H2 L1 L2 HC;rw[show({data:= #[48]}:ByteArray).data.toList=[48]from rfl]at HC;have HW:aY (∀W1,aJ (w.alloc (aL #[aM up,aF aG co,aF aG dir,aA (bs sp),aA (bs st)] 44)).heap.size (w.alloc (aL #[aM up,aF aG co,aF aG dir,aA (bs sp),aA (bs st)] 44)) W1→
  aJ w.heap.size w W1∧bZ W1 w.heap.size #[aM up,aF aG co,aF aG dir,aA (bs sp),aA (bs st)] 44):=by
  intro W1 h;exact⟨aH ((aI _ w).alloc (aD _) _) h (by simp),(bZ.new w _ _).below h (by simp)⟩
 have fP:aJ w.heap.size w (w.alloc (aL #[aM up,aF aG co,aF aG dir,aA (bs sp),aA (bs st)] 44)):=(aI _ w).alloc (aD _) _;have mE:=zq fP;clear hE h1 h2 fP;obtain⟨rb,hrb⟩:=nm (yU ⟨up,co,dir,sp,st⟩);have R1:=zq (R0.out rb hrb);have Hrb:=zq hrb;clear R0 hrb;unfold Fr.v Fr.cells;simp only[];generalize bs sp=SP at *;generalize bs st=ST at *;go_enter func69,ntmps69;go_upto_region 1 with fail
 go_cut[22] (fun v w'=>v=aM rb∧w'=w.alloc (aL #[aM up,aF aG co,aF aG dir,aA SP,aA ST] 44));case first =>
  have hr:=zq (show(decide (co<0)||decide (65536<co)||(decide (dir≠1)&&decide (dir≠-1)))=rb from Hrb.out);by_cases c1:co<0
  ·go_wp2;go_meet;case rel=>exact⟨by rw[←hr.out];simp[c1],rfl⟩
  ·by_cases c2:65536<co
   ·go_wp2;go_meet;case rel=>exact⟨by rw[←hr.out];simp[c2],rfl⟩
   ·have D1:aY (decide (co<0)=false∧decide (65536<co)=false):=⟨decide_eq_false c1,decide_eq_false c2⟩;have fg:(dir !=1)=decide (dir≠1):=BN _ _;have MY:(dir != -1)=decide (dir≠-1):=BN _ _;rw[D1.out.1,D1.out.2]at hr;generalize decide (dir≠1)=b1 at *;generalize decide (dir≠-1)=b2 at *;cases b1
    ·go_wp2;go_meet;case rel=>exact⟨by rw[←hr.out];rfl,rfl⟩
    ·cases b2;all_goals
      go_wp2;go_meet;case rel=>exact⟨by rw[←hr.out];rfl,rfl⟩
 case rest=>
  obtain⟨rfl,rfl⟩:=hcut;clear Hrb;cases rb with
  |true=>
   go_wp2;go_ret;exact⟨by rw[R1.out];rfl,mE.out⟩
  |false=>
   rw[iN (by decide)]at R1;by_cases a1:cQ sp=0
   ·rw[iN (by rw[a1];decide)]at R1;rw[Sz a1]at L1;by_cases a2:cQ st=0
    ·rw[iN (by rw[a2];decide)]at R1;rw[Sz a2]at L2;rw[a1]at H1;rw[a2]at H2;cases l1:long36 sp with
     |true=>
      rw[l1,Bool.true_or,ip rfl]at R1;rw[l1]at L1;clear a1 a2 l1 L2 HC;go_wp2_with fail
      refine ka (H1.out _ mE.out) fun W1 hb1=>?_;obtain⟨hB,q⟩:=HW.out _ hb1;have c3:=q.ce 3;have c4:=q.ce 4;have lt:=q.lt;clear hb1 mE HW;go_wp2_with fail
      refine ka (H2.out _ hB) fun W2 hb2=>?_;have q:=q.below hb2 q.lt;have hB:=aH hB hb2 hB.size;have c3:=q.ce 3;have c4:=q.ce 4;have lt:=q.lt;clear hb2;go_wp2_with fail
      refine ka (L1.out _ hB) fun W3 hb3=>?_;go_wp2;go_ret;exact⟨by rw[R1.out];rfl,aH hB hb3 hB.size⟩
     |false=>
      have hq:=Zj a1 l1;rw[hq]at HC;rw[l1,Bool.false_or]at R1;rw[l1]at L1;have hs:=zb (cF sp).num;generalize uO (cF sp).num=sg at *;clear a1 a2 l1 hq;go_wp2_with fail
      refine ka (H1.out _ mE.out) fun W1 hb1=>?_;obtain⟨hB,q⟩:=HW.out _ hb1;have c3:=q.ce 3;have c4:=q.ce 4;have lt:=q.lt;clear hb1 mE HW;go_wp2_with fail
      refine ka (H2.out _ hB) fun W2 hb2=>?_;have q:=q.below hb2 q.lt;have hB:=aH hB hb2 hB.size;have c3:=q.ce 3;have c4:=q.ce 4;have lt:=q.lt;clear hb2;go_wp2_with fail
      refine ka (L1.out _ hB) fun W3 hb3=>?_;have q:=q.below hb3 q.lt;have hB:=aH hB hb3 hB.size;have c3:=q.ce 3;have c4:=q.ce 4;have lt:=q.lt;clear hb3;go_wp2_with fail
      refine ka (L2.out _ hB) fun W4 hb4=>?_;have q:=q.below hb4 q.lt;have hB:=aH hB hb4 hB.size;have c3:=q.ce 3;have c4:=q.ce 4;have lt:=q.lt;clear hb4 q;cases l2:long36 st with
      |true=>
       rw[l2,ip rfl]at R1;go_wp2;go_ret;exact⟨by rw[R1.out];rfl,hB⟩
      |false=>
       rw[l2,iN (by decide)]at R1;go_wp2_with fail
       refine ka (HC.out _ hB) fun W5 hb5=>?_;have yH:=aH hB hb5 hB.size;by_cases hn:(cF sp).num<0
       ·rw[ip hn]at R1;have hs':sg<0:=of_decide_eq_true (by rw[hs];exact decide_eq_true hn);clear hs hn;go_wp2;go_ret;exact⟨by rw[R1.out];rfl,yH⟩
       ·rw[iN hn]at R1;have hs':¬sg<0:=of_decide_eq_false (by rw[hs];exact decide_eq_false hn);clear hs hn;go_wp2;go_ret;exact⟨by rw[R1.out];rfl,yH⟩
    ·rw[ip a2]at R1;rw[a1]at H1;have h':(cQ st !=0)=true:=by rw[bne_iff_ne];exact a2
     clear a1 L1 L2 HC;generalize cQ st=c at *;clear a2;go_wp2_with fail
     refine ka (H1.out _ mE.out) fun W1 hb1=>?_;obtain⟨hB,q⟩:=HW.out _ hb1;have c3:=q.ce 3;have c4:=q.ce 4;have lt:=q.lt;clear hb1 mE HW;go_wp2_with fail
     refine ka (H2.out _ hB) fun W2 hb2=>?_;go_wp2;go_ret;exact⟨by rw[R1.out];rfl,aH hB hb2 hB.size⟩
   ·rw[ip a1]at R1;have h':(cQ sp !=0)=true:=by rw[bne_iff_ne];exact a1
    clear L1 L2 HC H2;generalize cQ sp=c at *;clear a1;go_wp2_with fail
    refine ka (H1.out _ mE.out) fun W1 hb1=>?_;have hB:=(HW.out _ hb1).1;go_wp2;go_ret;exact⟨by rw[R1.out];rfl,hB⟩
theorem SA{s:List UInt8}(h:cQ s=0):Ba s [45]=decide ((cF s).num<0):=by
 have h1:=JE (bs s);have h2:=NX (cF s);rw[Iw h]at h2;rw[aX]at h1;rw[h1,h2]
theorem rW.pair(W:aE)(T:TypeId)(x y:List UInt8):rW (W.alloc (aL #[aA (bs x),aA (bs y)] T)) (some ⟨W.heap.size,0,none⟩) (strs [x,y]):=by
 intro i hi;refine⟨_,_,rfl,?_⟩;have:=(bZ.new W #[aA (bs x),aA (bs y)] T).cell (0+i);rw[this];have hi':i<2:=hi;rcases(by omega:i=0∨i=1)with rfl|rfl<;>rfl
theorem SB(f:Nat→Int):qK f 2=if f 0≠0 then f 0 else f 1:=by
 have e:qK f 1=f 0:=by rw[qK,qK,ip rfl]
 rw[qK,e];by_cases h:f 0=0
 ·rw[ip h,iN (by simp[h])]
 ·rw[iN h,ip h]
theorem SC(f:Fr):xN f=if yU f=true then 2 else if qK (fun j=>cQ ([f.sp,f.st].getD j [])) 2≠0 then qK (fun j=>cQ ([f.sp,f.st].getD j [])) 2 else
 if qK (fun j=>dR ([f.sp,f.st].getD j [])) 2≠0 then qK (fun j=>dR ([f.sp,f.st].getD j [])) 2 else if Ba f.sp [45]=true then 2 else 0:=by
 rw[xN,SB,SB];have e0:[f.sp,f.st].getD 0 []=f.sp:=rfl;have e1:[f.sp,f.st].getD 1 []=f.st:=rfl;rw[e0,e1];by_cases h:yU f=true
 ·rw[ip h,ip h]
 rw[iN h,iN h];by_cases h1:cQ f.sp=0
 ·have e2:(if cQ f.sp≠0 then cQ f.sp else cQ f.st)=cQ f.st:=iN (by simp[h1]);rw[e2,iN (show¬cQ f.sp≠0 by simp[h1])];by_cases h2:cQ f.st=0
  ·have n1:dR f.sp=if long36 f.sp=true then 4 else 0:=ip h1
   have n2:dR f.st=if long36 f.st=true then 4 else 0:=ip h2
   rw[iN (show¬cQ f.st≠0 by simp[h2]),iN (show¬cQ f.st≠0 by simp[h2]),n1,n2,SA h1];cases long36 f.sp<;>cases long36 f.st<;>simp
  ·rw[ip h2,ip h2]
 ·rw[ip h1,ip h1,ip h1]
theorem SD(f:Fr)(w:aE)(hE:eZ w)(h1:f.sp.length≤8000000)(h2:f.st.length≤8000000):
 aQ aC 63 #[f.v] w (Rt (aF aG (xN f)) w):=by
 have R0:=SC f;obtain⟨up,co,dir,sp,st⟩:=f;simp only[]at R0 h1 h2;have oB:∀k,k<2→(bs ([sp,st].getD k [])).size≤8000000:=by
  intro k hk;rw[bU];rcases(by omega:k=0∨k=1)with rfl|rfl
  ·exact h1
  ·exact h2
 have HC:=zq (fun(k:Nat)(hk:k<2)(W:aE)(h:aJ w.heap.size w W)=>DQ (bs ([sp,st].getD k [])) W (hE.below h) (oB k hk));have HN:=zq (fun(k:Nat)(hk:k<2)(W:aE)(h:aJ w.heap.size w W)=>Oa (bs ([sp,st].getD k [])) W (hE.below h) (oB k hk));have HP:=zq (fun(W:aE)=>Er (bs sp) {data:= #[45]} W);rw[show(bs sp).data.toList=sp from rfl,show({data:= #[45]}:ByteArray).data.toList=[45]from rfl]at HP;have mE:aY (aJ w.heap.size w (w.alloc (aL #[aM up,aF aG co,aF aG dir,aA (bs sp),aA (bs st)] 44))∧bZ (w.alloc (aL #[aM up,aF aG co,aF aG dir,aA (bs sp),aA (bs st)] 44)) w.heap.size #[aM up,aF aG co,aF aG dir,aA (bs sp),aA (bs st)] 44):=
  ⟨(aI _ w).alloc (aD _) _,bZ.new w _ _⟩
 clear hE h1 h2 oB;obtain⟨rb,hrb⟩:=nm (yU ⟨up,co,dir,sp,st⟩);rw[hrb]at R0;have R1:=zq R0;have Hrb:=zq hrb;clear R0 hrb;unfold Fr.v Fr.cells;simp only[];have hSP:∀W:aE,rW (W.alloc (aL #[aA (bs sp),aA (bs st)] 24)) (some ⟨W.heap.size,0,none⟩) (strs [sp,st]):=fun W=>rW.pair W _ sp st;have HSP:=zq hSP;clear hSP;generalize bs sp=SP at *;generalize bs st=ST at *;go_enter func63,ntmps63;go_upto_region 1 with fail
 go_cut[26] (fun v w'=>v=aM rb∧w'=w.alloc (aL #[aM up,aF aG co,aF aG dir,aA SP,aA ST] 44));case first =>
  have hr:=zq (show(decide (co<0)||decide (65536<co)||(decide (dir≠1)&&decide (dir≠-1)))=rb from Hrb.out);by_cases c1:co<0
  ·go_wp2;go_meet;case rel=>exact⟨by rw[←hr.out];simp[c1],rfl⟩
  ·by_cases c2:65536<co
   ·go_wp2;go_meet;case rel=>exact⟨by rw[←hr.out];simp[c2],rfl⟩
   ·have D1:aY (decide (co<0)=false∧decide (65536<co)=false):=⟨decide_eq_false c1,decide_eq_false c2⟩;have fg:(dir !=1)=decide (dir≠1):=BN _ _;have MY:(dir != -1)=decide (dir≠-1):=BN _ _;rw[D1.out.1,D1.out.2]at hr;generalize decide (dir≠1)=b1 at *;generalize decide (dir≠-1)=b2 at *;cases b1
    ·go_wp2;go_meet;case rel=>exact⟨by rw[←hr.out];rfl,rfl⟩
    ·cases b2;all_goals
      go_wp2;go_meet;case rel=>exact⟨by rw[←hr.out];rfl,rfl⟩
 case rest=>
  obtain⟨rfl,rfl⟩:=hcut;clear Hrb;cases rb with
  |true=>
   go_wp2;go_ret;exact⟨by rw[R1.out];rfl,mE.out.1⟩
  |false=>
   rw[iN (by decide)]at R1;go_wp2_with fail
   have hb0:=mE.out.2;have fP:=mE.out.1;obtain⟨W0,iU⟩:=nm (w.alloc (aL #[aM up,aF aG co,aF aG dir,aA SP,aA ST] 44));rw[iU]at hb0 fP⊢;have Kf:=HSP.out W0;have LQ:=hb0.alloc (aL #[aA SP,aA ST] 24);have Y7:=fP.alloc fP.size (aL #[aA SP,aA ST] 24);have hG:W0.heap.size=w.heap.size+1:=by rw[←iU];simp
   rw[hG]at Kf;have HA:=zq (And.intro Y7 (And.intro LQ Kf));clear iU mE hb0 fP Kf LQ Y7 hG;obtain⟨G,hG⟩:=nm (w.heap.size+1);rw[hG]at HA⊢;clear hG;go_loopw[33] (fun i wr=>∃k:Nat,i=aF aG k∧k≤2∧aJ w.heap.size w wr∧bZ wr w.heap.size #[aM up,aF aG co,aF aG dir,aA SP,aA ST] 44∧rW wr (some ⟨G,0,none⟩) (strs [sp,st])∧aY (qK (fun j=>cQ ([sp,st].getD j [])) k=0)) (fun i _=>2-(aK i).toNat);case atStart=>exact⟨0,rfl,bR _,HA.out.1,HA.out.2.1,HA.out.2.2,rfl⟩
   case round=>
    obtain⟨k,rfl,hk,hB,hb,xD,hz⟩:=hrel;have Hb:=zq hb;have Hrd:=zq xD;clear hb xD;by_cases hlt:k<2
    ·obtain⟨b,off,jt,zK⟩:=Hrd.out k (by exact hlt);injection jt with jt;injection jt with hab1 hab2;subst hab1 hab2;rw[mR [sp,st] (by exact hlt),gL]at zK;have Cm:=zq (HC.out k hlt);by_cases hck:cQ ([sp,st].getD k [])=0
     ·have hz2:aY (qK (fun j=>cQ ([sp,st].getD j [])) (k+1)=0):=sP hz.out hck;rw[aX,hck]at Cm;generalize bs ([sp,st].getD k [])=X at *;clear hck;go_wp2_with fail
      refine ka (Cm.out _ hB) fun W1 hb1=>?_;go_wp2;go_roundw;case rel=>exact⟨k+1,by go_num,by omega,aH hB hb1 hB.size,Hb.out.below hb1 Hb.out.lt,Hrd.out.below hb1,hz2.out⟩
      case measure=>simp only[aK];omega
     ·have e:qK (fun j=>cQ ([sp,st].getD j [])) 2=cQ ([sp,st].getD k []):=wD hz.out hck 2 hlt;have R:aY (xN ⟨up,co,dir,sp,st⟩=cQ ([sp,st].getD k [])):=by show _=_;rw[R1.out,e,ip hck]
      have h':(cQ ([sp,st].getD k []) !=0)=true:=by rw[bne_iff_ne];exact hck
      rw[aX]at Cm;clear e;generalize cQ ([sp,st].getD k [])=c at *;generalize bs ([sp,st].getD k [])=X at *;clear hck;go_wp2_with fail
      refine ka (Cm.out _ hB) fun W1 hb1=>?_;go_wp2;go_ret;exact⟨by rw[R.out];rfl,aH hB hb1 hB.size⟩
    ·obtain rfl:k=2:=by omega
     rw[iN (by rw[hz.out];decide)]at R1;have c3:=Hb.out.ce 3;have c4:=Hb.out.ce 4;have lt:=Hb.out.lt;clear HC hz hlt hk HA;go_wp2_with fail
     have Kf:=HSP.out wr;have LQ:=Hb.out.alloc (aL #[aA SP,aA ST] 24);have Y7:=hB.alloc hB.size (aL #[aA SP,aA ST] 24);have HA:=zq (And.intro Y7 (And.intro LQ Kf));clear Kf LQ Y7 hB Hb Hrd c3 c4 lt;generalize wr.heap.size=G2 at *;go_loopw[49] (fun i wr=>∃k:Nat,i=aF aG k∧k≤2∧aJ w.heap.size w wr∧bZ wr w.heap.size #[aM up,aF aG co,aF aG dir,aA SP,aA ST] 44∧rW wr (some ⟨G2,0,none⟩) (strs [sp,st])∧aY (qK (fun j=>dR ([sp,st].getD j [])) k=0)) (fun i _=>2-(aK i).toNat);case atStart=>exact⟨0,rfl,bR _,HA.out.1,HA.out.2.1,HA.out.2.2,rfl⟩
     case round=>
      obtain⟨k,rfl,hk,hB,hb,xD,hz⟩:=hrel;have Hb:=zq hb;have Hrd:=zq xD;clear hb xD;by_cases hlt:k<2
      ·obtain⟨b,off,jt,zK⟩:=Hrd.out k (by exact hlt);injection jt with jt;injection jt with hab1 hab2;subst hab1 hab2;rw[mR [sp,st] (by exact hlt),gL]at zK;have Cm:=zq (HN.out k hlt);by_cases hck:dR ([sp,st].getD k [])=0
       ·have hz2:aY (qK (fun j=>dR ([sp,st].getD j [])) (k+1)=0):=sP hz.out hck;rw[aX,hck]at Cm;generalize bs ([sp,st].getD k [])=X at *;clear hck;go_wp2_with fail
        refine ka (Cm.out _ hB) fun W1 hb1=>?_;go_wp2;go_roundw;case rel=>(repeat apply Exists.intro);exact⟨⟨k+1,by go_num,by omega,aH hB hb1 hB.size,Hb.out.below hb1 Hb.out.lt,Hrd.out.below hb1,hz2.out⟩,rfl⟩
        case measure=>simp[aK];omega
       ·have e:qK (fun j=>dR ([sp,st].getD j [])) 2=dR ([sp,st].getD k []):=wD hz.out hck 2 hlt;have R:aY (xN ⟨up,co,dir,sp,st⟩=dR ([sp,st].getD k [])):=by show _=_;rw[R1.out,e,ip hck]
        have h':(dR ([sp,st].getD k []) !=0)=true:=by rw[bne_iff_ne];exact hck
        rw[aX]at Cm;clear e;generalize dR ([sp,st].getD k [])=c at *;generalize bs ([sp,st].getD k [])=X at *;clear hck;go_wp2_with fail
        refine ka (Cm.out _ hB) fun W1 hb1=>?_;go_wp2;go_ret;exact⟨by rw[R.out];rfl,aH hB hb1 hB.size⟩
      ·obtain rfl:k=2:=by omega
       rw[iN (by rw[hz.out];decide)]at R1;have c3:=Hb.out.ce 3;have lt:=Hb.out.lt;clear HN hz hlt hk HA;cases hp:Ba sp [45];all_goals
        rw[hp]at HP R1;go_wp2_with fail
        refine kr (HP.out _) ?_;go_wp2;go_ret;exact⟨by rw[R1.out];rfl,hB⟩
theorem mS{k:Nat}{x:Rat}(h:HQ k x)(hk:k≤300):(bs (aV x)).size≤8000000:=by
 have:=(AT (h.mono hk).1 (h.mono hk).2).2;omega
section
variable{a b:Nat}{x y:Rat}
theorem PA(h1:HQ a x)(h2:HQ b y)(h:a+b+1≤300)(w:aE)(hE:eZ w):
 aQ aC 181 #[aA (bs (aV x)),aA (bs (aV y))] w (Rt (aA (bs (aV (x+y)))) w):=by
 have:=fr_add (bs (aV x)) (bs (aV y)) w hE (mS h1 (by omega)) (mS h2 (by omega));rwa[aX,aX,fw h1 h2 h]at this
theorem GP(h1:HQ a x)(h2:HQ b y)(h:a+b+1≤300)(w:aE)(hE:eZ w):
 aQ aC 184 #[aA (bs (aV x)),aA (bs (aV y))] w (Rt (aA (bs (aV (x-y)))) w):=by
 have:=fr_sub (bs (aV x)) (bs (aV y)) w hE (mS h1 (by omega)) (mS h2 (by omega));rwa[aX,aX,fx h1 h2 h]at this
theorem KG(h1:HQ a x)(h2:HQ b y)(h:a+b≤300)(w:aE)(hE:eZ w):
 aQ aC 182 #[aA (bs (aV x)),aA (bs (aV y))] w (Rt (aA (bs (aV (x*y)))) w):=by
 have:=fr_mul (bs (aV x)) (bs (aV y)) w hE (mS h1 (by omega)) (mS h2 (by omega));rwa[aX,aX,fy h1 h2 h]at this
theorem PC(h1:HQ a x)(h2:HQ b y)(h:a+b≤300)(h0:y≠0)(w:aE)(hE:eZ w):
 aQ aC 218 #[aA (bs (aV x)),aA (bs (aV y))] w (Rt (aA (bs (aV (x/y)))) w):=by
 have:=fr_div (bs (aV x)) (bs (aV y)) w hE (mS h1 (by omega)) (mS h2 (by omega));rwa[aX,aX,gh h1 h2 h h0]at this
theorem jw(h1:HQ a x)(h2:HQ b y)(h:a+b+1≤300)(w:aE)(hE:eZ w):
 aQ aC 193 #[aA (bs (aV x)),aA (bs (aV y))] w (Rt (aA (bs (aV (x+y)))) w):=by
 have:=yx (bs (aV x)) (bs (aV y)) w hE (mS h1 (by omega)) (mS h2 (by omega));rwa[aX,aX,fw h1 h2 h]at this
theorem C8(h1:HQ a x)(h2:HQ b y)(h:a+b+1≤300)(w:aE)(hE:eZ w):
 aQ aC 162 #[aA (bs (aV x)),aA (bs (aV y))] w (Rt (aA (bs (aV (x-y)))) w):=by
 have:=yy (bs (aV x)) (bs (aV y)) w hE (mS h1 (by omega)) (mS h2 (by omega));rwa[aX,aX,fx h1 h2 h]at this
theorem SF(h1:HQ a x)(h2:HQ b y)(h:a+b≤300)(w:aE)(hE:eZ w):
 aQ aC 192 #[aA (bs (aV x)),aA (bs (aV y))] w (Rt (aA (bs (aV (x*y)))) w):=by
 have:=yz (bs (aV x)) (bs (aV y)) w hE (mS h1 (by omega)) (mS h2 (by omega));rwa[aX,aX,fy h1 h2 h]at this
theorem jx(h1:HQ a x)(h2:HQ b y)(h:a+b≤300)(h0:y≠0)(w:aE)(hE:eZ w):
 aQ aC 164 #[aA (bs (aV x)),aA (bs (aV y))] w (Rt (aA (bs (aV (x/y)))) w):=by
 have:=za (bs (aV x)) (bs (aV y)) w hE (mS h1 (by omega)) (mS h2 (by omega));rwa[aX,aX,gh h1 h2 h h0]at this
theorem JJ(h1:HQ a x)(h2:HQ b y)(h:a+b≤300)(w:aE)(hE:eZ w):
 aQ aC 114 #[aA (bs (aV x)),aA (bs (aV y))] w (Rt (aF aG (mJ x y)) w):=by
 have:=L9 (bs (aV x)) (bs (aV y)) w hE (mS h1 (by omega)) (mS h2 (by omega));rwa[aX,aX,CQ h1 h2 h]at this
theorem tZ(h1:HQ a x)(h2:HQ b y)(h:a+b≤300)(w:aE)(hE:eZ w):
 aQ aC 127 #[aA (bs (aV x)),aA (bs (aV y))] w (Rt (aF aG (mJ x y)) w):=by
 have:=C7 (bs (aV x)) (bs (aV y)) w hE (mS h1 (by omega)) (mS h2 (by omega));rwa[aX,aX,CQ h1 h2 h]at this
end
structure FQ where
 up:Bool
 co:Int
 dir:Int
 v:Rat
 t:Rat
def FQ.fr(q:FQ):Fr:=⟨q.up,q.co,q.dir,aV q.v,aV q.t⟩
structure FQ.Good(q:FQ):Prop where
 co0:0≤q.co
 co1:q.co≤65536
 dir:q.dir=1∨q.dir= -1
 v0:0≤q.v
 v:HQ 30 q.v
 t:HQ 30 q.t
theorem Fr.good{f:Fr}(h:xN f=0)(h1:f.sp.length≤30)(h2:f.st.length≤30):∃q:FQ,q.Good∧f=q.fr:=by
 unfold xN at h;by_cases hr:yU f=true
 ·rw[ip hr]at h;cases h
 rw[iN hr]at h;by_cases a1:cQ f.sp=0
 ·rw[iN (by simp[a1])]at h;by_cases a2:cQ f.st=0
  ·rw[iN (by simp[a2])]at h;by_cases hl:(long36 f.sp||long36 f.st)=true
   ·rw[ip hl]at h;cases h
   rw[iN hl]at h;by_cases hn:(cF f.sp).num<0
   ·rw[ip hn]at h;cases h
   refine⟨⟨f.up,f.co,f.dir,cF f.sp,cF f.st⟩,?_,?_⟩
   ·have hr:yU f=false:=by simpa using hr
    unfold yU at hr;simp only[fM,UH,decide_eq_false_iff_not]at hr;refine⟨by show 0≤f.co;omega,by show f.co≤65536;omega,by show f.dir=1∨f.dir= -1;omega,?_,HQ.of_length a1 h1 (by decide),HQ.of_length a2 h2 (by decide)⟩;exact Rat.num_nonneg.1 (by show 0≤(cF f.sp).num;omega)
   ·unfold FQ.fr;simp only[Iw a1,Iw a2]
  ·rw[ip a2]at h;exact absurd h a2
 ·rw[ip a1]at h;exact absurd h a1
theorem FQ.Good.chk{q:FQ}(h:q.Good):xN q.fr=0:=by
 have c1:cQ (aV q.v)=0:=sJ h.v (by decide);have c2:cQ (aV q.t)=0:=sJ h.t (by decide);have hl:∀{x:Rat},HQ 30 x→long36 (aV x)=false:=by
  intro x hx;have hc:cQ (aV x)=0:=sJ hx (by decide);unfold long36;rw[E8 hc,E7 hc,kT,oM,iT,fM,decide_eq_false_iff_not,decide_eq_false_iff_not];have e1:=(cJ x.num.natAbs 30 (by decide)).2 hx.1;have e2:=(cJ x.den 30 (by decide)).2 hx.2;omega
 have hr:yU q.fr=false:=by
  have:=h.co0;have:=h.co1;have:=h.dir;unfold yU FQ.fr;simp only[fM,UH,decide_eq_false_iff_not];omega
 unfold xN;rw[iN (by rw[hr];decide),iN (by rw[show q.fr.sp=aV q.v from rfl,c1];decide),iN (by rw[show q.fr.st=aV q.t from rfl,c2];decide),
  iN (by rw[show q.fr.sp=aV q.v from rfl,show q.fr.st=aV q.t from rfl,hl h.v,hl h.t];decide),iN]
 rw[show q.fr.sp=aV q.v from rfl,kT];have:=Rat.num_nonneg.2 h.v0;omega
def FQ.pos(q:FQ)(z:Rat):Rat:=if z≤q.t then(q.co:Rat)else(q.co:Rat)+(q.dir:Rat)*q.v*(z-q.t)
def FQ.vel(q:FQ):Rat:=(q.dir:Rat)*q.v
theorem FQ.Good.hco{q:FQ}(h:q.Good):HQ 5 (q.co:Rat):=HQ.int (by have:=h.co0;have:=h.co1;omega) (by decide)
theorem FQ.Good.hdir{q:FQ}(h:q.Good):HQ 1 (q.dir:Rat):=HQ.int (by have:=h.dir;omega) (by decide)
theorem FQ.Good.hvel{q:FQ}(h:q.Good):HQ 31 q.vel:=(h.hdir.mul h.v).mono (by decide)
abbrev FQ.box(q:FQ):Obj:=aL q.fr.cells 44
theorem Ab(q:FQ)(hq:q.Good)(w:aE)(hE:eZ w):
 aQ aC 183 #[q.fr.v] w (Rt (aA (bs (aV q.vel))) w):=by
 have HW:=zq (fun(W:aE)(h:aJ w.heap.size w W)=>GN q.dir W (hE.below h) (by have:=hq.dir;omega));have HM:=zq (fun(W:aE)(h:aJ w.heap.size w W)=>KG hq.hdir hq.v (by decide) W (hE.below h));have HR:aY (q.vel=(q.dir:Rat)*q.v):=rfl;rw[←HR.out]at HM;clear hE hq;obtain⟨up,co,dir,v,t⟩:=q;unfold Fr.v Fr.cells FQ.fr;simp only[]at *;generalize FQ.vel ⟨up,co,dir,v,t⟩=V at *;generalize bs (aV v)=SP at *;generalize bs (aV t)=ST at *;generalize bs (aV (dir:Rat))=DT at *;go_enter func183,ntmps183;go_wp2;have hb:=bZ.new w #[aM up,aF aG co,aF aG dir,aA SP,aA ST] 44;have hB:=(aI _ w).alloc (aD _) (aL #[aM up,aF aG co,aF aG dir,aA SP,aA ST] 44);obtain⟨W,hW⟩:=nm (w.alloc (aL #[aM up,aF aG co,aF aG dir,aA SP,aA ST] 44));rw[hW]at hb hB⊢;clear hW;have c2:=hb.ce 2;have c3:=hb.ce 3;have lt:=hb.lt;have HB:=zq hB;clear hb hB;go_region_held3 (fun w'=>w'.cell? ⟨w.heap.size,2,none⟩=some (aF aG dir)∧w'.cell? ⟨w.heap.size,3,none⟩=some (aA SP)) (go_keep)
  (first
   |(go_at_call 180;refine(HW.out _ (HB.out.drew)).mono ?_;rintro e w' ⟨rfl,hb⟩;have:=ck hb w.heap.size 2 (aF aG dir);have:=ck hb w.heap.size 3 (aA SP))
   |(go_at_call 182;refine(HM.out _ (HB.out.trans ((iD (aI _ W).drew hb).mono HB.out.size))).mono ?_;rintro e w'' ⟨rfl,Pw⟩;have k0:=bV Pw (p:=⟨w.heap.size,2,none⟩) (v:=aF aG dir) (by simp[*]);have k1:=bV Pw (p:=⟨w.heap.size,3,none⟩) (v:=aA SP) (by simp[*])))
 go_wp2;have hbB:=HB.out.trans ((iD (aI _ W).drew hb).mono HB.out.size);go_ret;exact⟨rfl,hbB.trans (Pw.mono hbB.size)⟩
theorem Xx(x y:Rat):decide (mJ x y≤0)=decide (x≤y):=by
 unfold mJ;by_cases h:x<y
 ·rw[ip h];simp[Rat.le_of_lt h]
 ·rw[iN h];by_cases k:y<x
  ·rw[ip k];simp[Rat.not_le.2 k]
  ·rw[iN k];simp[Rat.not_lt.1 k]
theorem C9(q:FQ)(hq:q.Good)(z:Rat)(k:Nat)(hz:HQ k z)(hk:k≤200)(w:aE)(hE:eZ w):
 aQ aC 124 #[q.fr.v,aA (bs (aV z))] w (Rt (aA (bs (aV (q.pos z)))) w):=by
 have HC:=zq (fun(W:aE)(h:aJ w.heap.size w W)=>JJ hz hq.t (by omega) W (hE.below h));have HW:=zq (fun(W:aE)(h:aJ w.heap.size w W)=>GN q.co W (hE.below h) (by have:=hq.co0;have:=hq.co1;omega));have HV:=zq (fun(W:aE)(h:aJ w.heap.size w W)=>Ab q hq W (hE.below h));have HS:=zq (fun(W:aE)(h:aJ w.heap.size w W)=>GP hz hq.t (by omega) W (hE.below h));have HM:=zq (fun(W:aE)(h:aJ w.heap.size w W)=>KG hq.hvel (hz.sub hq.t) (by omega) W (hE.below h));have HA:=zq (fun(W:aE)(h:aJ w.heap.size w W)=>PA hq.hco (hq.hvel.mul (hz.sub hq.t)) (by omega) W (hE.below h));have R1:z≤q.t→aY (q.pos z=(q.co:Rat)):=fun h=>ip h;have R2:¬z≤q.t→aY (q.pos z=(q.co:Rat)+q.vel*(z-q.t)):=fun h=>iN h;have hcm:=Xx z q.t;generalize mJ z q.t=cm at *;have hp1:z≤q.t→cm≤0:=fun h=>of_decide_eq_true (by rw[hcm];exact decide_eq_true h);have Up:¬z≤q.t→¬cm≤0:=fun h=>of_decide_eq_false (by rw[hcm];exact decide_eq_false h);clear hE hq hz hk hcm;by_cases hzt:z≤q.t
 ·have R:=R1 hzt;have hp:=hp1 hzt;clear R1 R2 hp1 Up hzt HV HS HM HA;obtain⟨up,co,dir,v,t⟩:=q;unfold Fr.v Fr.cells FQ.fr;simp only[]at *;generalize bs (aV v)=SP at *;generalize bs (aV t)=ST at *;generalize bs (aV z)=ZT at *;go_enter func124,ntmps124;go_wp2_with fail
  have hb:=bZ.new w #[aM up,aF aG co,aF aG dir,aA SP,aA ST] 44;have hB:=(aI _ w).alloc (aD _) (aL #[aM up,aF aG co,aF aG dir,aA SP,aA ST] 44);refine(HC.out _ hB).mono ?_;rintro e W1⟨rfl,hb1⟩;have hb:=hb.below hb1 hb.lt;have hB:=aH hB hb1 hB.size;have c1:=hb.ce 1;have lt:=hb.lt;clear hb hb1;go_wp2_with fail
  refine ka (HW.out _ hB) fun W2 hb2=>?_;go_wp2;go_ret;exact⟨by rw[R.out];rfl,aH hB hb2 hB.size⟩
 ·have R:=R2 hzt;have hp:=Up hzt;clear R1 R2 hp1 Up hzt;obtain⟨up,co,dir,v,t⟩:=q;unfold Fr.v Fr.cells FQ.fr at *;simp only[]at *;generalize bs (aV v)=SP at *;generalize bs (aV t)=ST at *;generalize bs (aV (co:Rat))=CT at *;generalize bs (aV z)=ZT at *;generalize bs (aV (z-t))=DT at *;generalize bs (aV (FQ.vel ⟨up,co,dir,v,t⟩))=VT at *;generalize bs (aV (FQ.vel ⟨up,co,dir,v,t⟩*(z-t)))=MT at *;go_enter func124,ntmps124;go_wp2_with fail
  have hb:=bZ.new w #[aM up,aF aG co,aF aG dir,aA SP,aA ST] 44;have hB:=(aI _ w).alloc (aD _) (aL #[aM up,aF aG co,aF aG dir,aA SP,aA ST] 44);refine(HC.out _ hB).mono ?_;rintro e W⟨rfl,hb1⟩;have hb:=hb.below hb1 hb.lt;have hB:=aH hB hb1 hB.size;have d0:=hb.ce 0;have d1:=hb.ce 1;have d2:=hb.ce 2;have d3:=hb.ce 3;have d4:=hb.ce 4;have lt:=hb.lt;have HB:=zq hB;clear hb hB hb1;go_wp2_with fail
  go_region_held3 (fun w'=>w'.cell? ⟨w.heap.size,0,none⟩=some (aM up)∧w'.cell? ⟨w.heap.size,1,none⟩=some (aF aG co)∧w'.cell? ⟨w.heap.size,2,none⟩=some (aF aG dir)∧w'.cell? ⟨w.heap.size,3,none⟩=some (aA SP)∧w'.cell? ⟨w.heap.size,4,none⟩=some (aA ST)) (go_keep)
   (first
    |(go_at_call 180;refine(HW.out _ (HB.out.drew)).mono ?_;rintro e w1 ⟨rfl,hb1⟩;have gG:=aH HB.out.drew hb1 HB.out.size;have:=ck hb1 w.heap.size 0 (aM up);have:=ck hb1 w.heap.size 1 (aF aG co);have:=ck hb1 w.heap.size 2 (aF aG dir);have:=ck hb1 w.heap.size 3 (aA SP);have:=ck hb1 w.heap.size 4 (aA ST))
    |(go_at_call 183;refine(HV.out _ gG).mono ?_;rintro e w2 ⟨rfl,hb2⟩;have eQ:=aH gG hb2 gG.size;have:=ck hb2 w.heap.size 0 (aM up);have:=ck hb2 w.heap.size 1 (aF aG co);have:=ck hb2 w.heap.size 2 (aF aG dir);have:=ck hb2 w.heap.size 3 (aA SP);have:=ck hb2 w.heap.size 4 (aA ST))
    |(go_at_call 184;refine(HS.out _ eQ).mono ?_;rintro e w3 ⟨rfl,hb3⟩;have fN:=aH eQ hb3 eQ.size;have:=ck hb3 w.heap.size 0 (aM up);have:=ck hb3 w.heap.size 1 (aF aG co);have:=ck hb3 w.heap.size 2 (aF aG dir);have:=ck hb3 w.heap.size 3 (aA SP);have:=ck hb3 w.heap.size 4 (aA ST))
    |(go_at_call 182;refine(HM.out _ fN).mono ?_;rintro e w4 ⟨rfl,hb4⟩;have hB4:=aH fN hb4 fN.size;have:=ck hb4 w.heap.size 0 (aM up);have:=ck hb4 w.heap.size 1 (aF aG co);have:=ck hb4 w.heap.size 2 (aF aG dir);have:=ck hb4 w.heap.size 3 (aA SP);have:=ck hb4 w.heap.size 4 (aA ST))
    |(go_at_call 181;refine(HA.out _ hB4).mono ?_;rintro e w5 ⟨rfl,hb5⟩;have yH:=aH hB4 hb5 hB4.size;have:=ck hb5 w.heap.size 0 (aM up);have:=ck hb5 w.heap.size 1 (aF aG co);have:=ck hb5 w.heap.size 2 (aF aG dir);have:=ck hb5 w.heap.size 3 (aA SP);have:=ck hb5 w.heap.size 4 (aA ST)))
  go_wp2;go_ret;exact⟨by rw[R.out];rfl,yH⟩
end
end Go.Proofs.YtcimoodjlopdaaaGreatDoor
