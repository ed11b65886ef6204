/-
  ENACT, 6: a unit moved: the program does what the document says.
-/
import Derived.Test.YtcecmifknojgeaaGreatDoorXE1toXE5
import Derived.Test.YtcecmifknojgeaaGreatDoorXL18toXOpI
namespace Go.Av
open Go Go.RowKit Go.Proofs List
set_option linter.unusedSimpArgs false
set_option linter.unusedVariables false
theorem g9 {l:List U} {k:Nat} (h:k<l.length):(aL l k).length=l.length-1:=by
 unfold aL;rw[length_append,length_take,length_drop];omega
structure Goal (u:U) (t:Idd) (wh:Int) (P:U) (dp k:Nat):Prop where
 mem:P.id∈u.ids
 here:fnd P.id u=P
 deep:(U.way P.id u).length=dp+1
 spot:Go.Av.spot u t wh=some (P.id,k)
 ref:(if besides wh then (parR t u).1 else fnd t u)=P/\(if besides wh then (parR t u).2.1 else (U.way t u).length-1)=dp
 out:∀i,i∈u.ids->t∉(fnd i u).ids->P.id∉(fnd i u).ids
 pos:(wh=0/\k=0)\/(wh=1/\k=P.kids.length)\/((wh=2\/wh=3)/\∃j a y b,P.kids=a++y::b/\y.id=t/\j=a.length/\t∉U.idss a/\k=j+(if wh=2 then 1 else 0))
theorem iP {u:U} (hn:u.ids.Nodup) {t:Idd} (ht:t∈u.ids) {wh:Int} (h0:0<=wh) (h3:wh<=3) (hne:¬(besides wh=true/\t=u.id)):∃P dp k,Goal u t wh P dp k:=by
 have hh:(wh=0\/wh=1)\/(wh=2\/wh=3):=by omega
 rcases hh with hh|hh
 ·have hb:besides wh=false:=decide_eq_false (by omega)
  have hi:=dj u hn ht
  have hw:=eo ht
  refine⟨fnd t u,(U.way t u).length-1,if wh=0 then 0 else (fnd t u).kids.length,?_,?_,?_,?_,?_,?_,?_⟩
  ·rw[hi.1];exact ht
  ·rw[hi.1]
  ·rw[hi.1];omega
  ·unfold spot
   rw[hi.1]
   rcases hh with rfl|rfl<;>simp
  ·rw[hb];simp
  ·intro i hi2 h
   rw[hi.1];exact h
  ·rcases hh with rfl|rfl<;>simp
 ·have hb:besides wh=true:=decide_eq_true hh
  have hne2:u.id≠t:=λe=>hne ⟨hb,e.symm⟩
  obtain⟨p,d,j,e1,e2,e3⟩:=aW hn ht hne2
  obtain⟨a,k,b,s,hk,hj,hl⟩:=e3.split
  refine⟨p,d,if wh=2 then j+1 else j,e3.mem,e3.fnd,e3.deep,?_,?_,?_,?_⟩
  ·unfold spot
   rw[e1]
   rcases hh with rfl|rfl<;>simp
  ·rw[hb,e2];simp
  ·intro i hi h hm
   apply h
   have hpi:=(gG u hn e3.mem hi).2 hm
   rw[←gG u hn ht hi]
   obtain⟨y,hy,e⟩:=hpi
   exact⟨y,by rw[e3.path];exact mem_append.2 (.inl hy),e⟩
  ·refine .inr (.inr ⟨hh,j,a,k,b,s.eq,hk,hj,s.left,?_⟩)
   rcases hh with rfl|rfl<;>simp
theorem jL {a b:List U} {y:U} {t:Idd} (ha:t∉U.idss a) (hy:y.id=t):firstAt (λk=>decide (k.id=t)) (a++y::b)=some a.length:=
 gz (gv ha) (decide_eq_true hy)
theorem pH {a b:List U} {y:U} {j:Nat} (h:j<a.length):aL (a++y::b) j=aL a j++y::b:=by
 unfold aL
 rw[take_append_of_le_length (by omega),drop_append_of_le_length (by omega),append_assoc]
theorem oM {a b:List U} {y:U} {j:Nat} (h:a.length<j):aL (a++y::b) j=a++y::aL b (j-a.length-1):=by
 unfold aL
 obtain⟨m,rfl⟩:∃m,j=a.length+(m+1):=⟨j-a.length-1,by omega⟩
 rw[take_length_add_append,show a.length+(m+1)+1=a.length+(m+2)by omega,drop_length_add_append]
 simp
theorem idss_del {t:Idd} {a:List U} {j:Nat} (h:t∉U.idss a):t∉U.idss (aL a j):=by
 unfold aL
 rw[U.idss_app,mem_append,not_or]
 have e1:U.idss a=U.idss (a.take j)++U.idss (a.drop j):=by rw[←U.idss_app,take_append_drop]
 have e2:U.idss a=U.idss (a.take (j+1))++U.idss (a.drop (j+1)):=by rw[←U.idss_app,take_append_drop]
 exact⟨λhm=>h (by rw[e1];exact mem_append.2 (.inl hm)),λhm=>h (by rw[e2];exact mem_append.2 (.inr hm))⟩
theorem mov_eq (u:U) (hn:u.ids.Nodup) (h64:∀y∈u.flat,y.kids.length<=64) (i t:Idd) (hi:i∈u.ids) (ht:t∈u.ids) (hiu:i≠u.id) (d:Dd) (h0:0<=d.it.wh) (h3:d.it.wh<=3):movR u i t d=movP u i t d:=by
 obtain⟨own,dO,j,w1,w2,hp⟩:=aW hn hi (Ne.symm hiu)
 obtain⟨a,x,b,s,hx,hj,hl⟩:=hp.split
 have hfx:fnd i u=x:=aF hl
 have hxn:x.ids.Nodup:=s.nd
 have htwo:=way_two (t:=t) x hxn
 rw[hx]at htwo
 have hund:=gI u hn ht hi
 rw[hfx]at hund
 have hown:own∈u.flat:=by
  have:=aM u hn hp.mem
  rw[hp.fnd]at this;exact this
 have hlen:own.kids.length=a.length+b.length+1:=by rw[s.eq];simp;omega
 have ho64:=h64 own hown
 subst hj
 have hW:without i u=U.wth own.id (λy=>{y with kids:=aL y.kids a.length}) u:=by unfold without;rw[w1]
 unfold movR movP fk
 simp only[w1,w2,hfx,hW,cA]
 by_cases hu:jZ u i t=true
 ·have hu2:=hund.1 hu
  rw[if_pos (.inr (.inr (.inl (htwo.1.2 hu2)))),if_pos (.inl hu)]
 by_cases hti:t=i
 ·subst hti
  by_cases hb:besides d.it.wh=true
  ·have c1:¬(t=u.id\/besides d.it.wh=true/\t=u.id\/1<(U.way t x).length\/(U.way t x).length=1/\besides d.it.wh=false):=by
    rintro(h|h|h|h)
    ·exact hiu h
    ·exact hiu h.2
    ·exact(htwo.1.1 h).1 rfl
    ·rw[hb]at h;cases h.2
   have c2:¬(jZ u t t=true\/t=t/\besides d.it.wh=false):=by
    rintro(h|h)
    ·exact hu h
    ·rw[hb]at h;cases h.2
   have hq:own.id∉x.ids:=by
    have:=(U.nd_kids hp.nd).2
    rw[s.eq,U.idss_app,U.idss_cons]at this
    exact λh=>this (mem_append.2 (.inr (mem_append.2 (.inl h))))
   have hway:=jg (t:=own.id) hn hp s.eq hq
   have hf2:fnd own.id (U.wth own.id (λy=>{y with kids:=aL y.kids a.length}) u)={own with kids:=a++b}:=by
    refine aF ?_
    rw[hway,getLast?_map,hp.last,Option.map_some,aZ rfl,s.eq,bG]
   rw[if_neg c1,if_neg c2,if_pos rfl]
   simp only[hb,if_true,hf2,w2]
   rw[hway,length_map,hp.deep,s.eq,bG]
   have e1:bJ {own with kids:=a++b} (a++b) x=bJ own (a++b) x:=rfl
   rw[e1]
   have e2:¬64<=(a++b).length:=by rw[length_append];omega
   have e3:U.wth own.id (λy=>{y with kids:=aR y.kids a.length x}) (U.wth own.id (λy=>{y with kids:=aL y.kids a.length}) u)=u:=by
    rw[wth_wth (f:=λy=>{y with kids:=aL y.kids a.length}) u hn hp.mem λy e=>e]
    refine wth_self u hn hp.mem ?_
    rw[hp.fnd]
    simp only
    rw[s.eq,bG,oO,←s.eq]
    cases own;rfl
   rw[e3]
   split
   ·rfl
   ·simp only[e2,false_or,ne_eq,not_true_eq_false,false_and]
    norm_cast
  ·have hb2:besides d.it.wh=false:=by simpa using hb
   rw[if_pos (.inr (.inr (.inr ⟨htwo.2.2 rfl,hb2⟩))),if_pos (.inr ⟨rfl,hb2⟩)]
 ·have htx:t∉x.ids:=λh=>hu (hund.2 ⟨hti,h⟩)
  by_cases hr:besides d.it.wh=true/\t=u.id
  ·have hs:spot u t d.it.wh=none:=by
    have hh:d.it.wh=2\/d.it.wh=3:=by simpa[besides]using hr.1
    unfold spot
    rw[cB hr.2.symm]
    rcases hh with h|h<;>simp[h]
   rw[if_pos (.inr (.inl hr)),if_neg (by rintro(h|h);exact hu h;exact hti h.1),if_neg hti,hs]
   rfl
  ·obtain⟨P,deep,k,hg⟩:=iP hn ht h0 h3 hr
   have c1:¬(i=u.id\/besides d.it.wh=true/\t=u.id\/1<(U.way t x).length\/(U.way t x).length=1/\besides d.it.wh=false):=by
    rintro(h|h|h|h)
    ·exact hiu h
    ·exact hr h
    ·exact htx (htwo.1.1 h).2
    ·exact hti (htwo.2.1 h.1)
   have c2:¬(jZ u i t=true\/t=i/\besides d.it.wh=false):=by
    rintro(h|h)
    ·exact hu h
    ·exact hti h.1
   rw[if_neg c1,if_neg c2,if_neg hti,hg.spot,hg.ref.1,hg.ref.2]
   simp only[Option.map_some,if_neg hti]
   have hPx:P.id∉x.ids:=by
    have:=hg.out i hi
    rw[hfx]at this
    exact this htx
   have hway:=jg (t:=P.id) hn hp s.eq hPx
   obtain⟨F,hF⟩:∃F:U->U,F=λy=>{y with kids:=aL y.kids a.length}:=⟨_,rfl⟩
   rw[←hF]at hway ⊢
   have hf2:fnd P.id (U.wth own.id F u)=U.wth own.id F P:=by
    refine aF ?_
    rw[hway,getLast?_map,(dj u hn hg.mem).2,hg.here]
    rfl
   have hput:U.put {own with kids:=aL own.kids a.length} u=U.wth own.id F u:=by
    have:=fq u hn hp.mem λl=>aL l a.length
    rw[hp.fnd]at this
    rw[hF];exact this
   rw[hput,hf2]
   have hkind:(U.wth own.id F P).kind=P.kind:=ek U.kind (λy=>by rw[hF]) (λ_ _=>rfl) P
   have hid:(U.wth own.id F P).id=P.id:=ek U.id (λy=>by rw[hF]) (λ_ _=>rfl) P
   have hkeys:∀{β:Type} (key:U->β),(∀y ks,key {y with kids:=ks}=key y)->(U.wth own.id F P).kids.map key=(cA P own a.length).map key:=by
    intro β key hk
    unfold cA
    by_cases ho:own.id=P.id
    ·have e:P=own:=by rw[←hg.here,←ho,hp.fnd]
     subst e
     rw[if_pos rfl,aZ rfl,hF]
    ·rw[if_neg ho,U.wth_eq,if_neg (Ne.symm ho)]
     simp only
     exact jM key (ek key (λy=>by rw[hF];exact hk y _) hk) P.kids
   have ht1:bJ (U.wth own.id F P) (U.wth own.id F P).kids x=bJ P (cA P own a.length) x:=by
    unfold bJ
    rw[hkind,pc (hkeys (λy=>(y.kind,y.label)) λ_ _=>rfl)]
   have hl1:(U.wth own.id F P).kids.length=(cA P own a.length).length:=by
    have:=congrArg List.length (hkeys U.id λ_ _=>rfl)
    simpa using this
   have hrest:(if own.id=P.id then aL P.kids a.length else P.kids)=cA P own a.length:=rfl
   rw[hrest,ht1,hl1,hway,length_map,hg.deep]
   split
   ·rfl
   ·have hcond:(64<=(cA P own a.length).length\/8<(deep:Int)+1+x.dep)↔(P.id≠own.id/\64<=(cA P own a.length).length\/8<((deep+1:Nat):Int)+x.dep):=by
     have e5:((deep+1:Nat):Int)=(deep:Int)+1:=by omega
     rw[e5]
     by_cases ho:own.id=P.id
     ·have e:P=own:=by rw[←hg.here,←ho,hp.fnd]
      subst e
      have:¬64<=(cA P P a.length).length:=by
       unfold cA
       rw[if_pos rfl,g9 (by omega)]
       omega
      simp[this]
     ·simp[Ne.symm ho]
    by_cases hc:64<=(cA P own a.length).length\/8<(deep:Int)+1+x.dep
    ·rw[if_pos hc,if_pos (hcond.1 hc)]
    ·rw[if_neg hc,if_neg λh=>hc (hcond.2 h)]
     have hat:atR (U.wth own.id F P).kids t d.it.wh=if P.id=own.id/\a.length<k then k-1 else k:=by
      have hfst:firstAt (λk=>decide (k.id=t)) (U.wth own.id F P).kids=firstAt (λk=>decide (k.id=t)) (cA P own a.length):=pB (hkeys U.id λ_ _=>rfl) t
      unfold atR
      rw[hl1,hfst]
      unfold cA
      by_cases ho:own.id=P.id
      ·have e:P=own:=by rw[←hg.here,←ho,hp.fnd]
       subst e
       rw[if_pos rfl]
       rcases hg.pos with⟨e1,e2⟩|⟨e1,e2⟩|⟨e1,j',a',y,b',e2,e3,e4,e5,e6⟩
       ·simp[e1,e2]
       ·rw[e1,e2,g9 (by omega)]
        simp only[show ¬((1:Int)=0)by decide,if_false,if_true,true_and]
        rw[if_pos (by omega)]
       ·have n0:¬d.it.wh=0:=by omega
        have n1:¬d.it.wh=1:=by omega
        rw[if_neg n0,if_neg n1,e2]
        subst e4
        have hne3:a'.length≠a.length:=by
         intro e
         have h1:=s.eq
         rw[e2]at h1
         have:=(append_inj h1 e).2
         injection this with this
         exact hti (e3.symm.trans ((congrArg U.id this).trans hx))
        subst e6
        obtain⟨w,hw⟩:∃w:Nat,(if d.it.wh=2 then 1 else 0)=w:=⟨_,rfl⟩
        have hw1:w<=1:=by rw[←hw];split<;>omega
        rw[hw]
        have hfa:∃m,firstAt (λk=>decide (k.id=t)) (aL (a'++y::b') a.length)=some m/\m=if a.length<a'.length then a'.length-1 else a'.length:=by
         by_cases hlt:a.length<a'.length
         ·rw[pH hlt,jL (idss_del e5) e3,g9 hlt,if_pos hlt]
          exact⟨_,rfl,rfl⟩
         ·rw[oM (by omega),jL e5 e3,if_neg hlt]
          exact⟨_,rfl,rfl⟩
        obtain⟨m,hm,hm2⟩:=hfa
        rw[hm]
        simp only[Option.getD_some,true_and]
        rw[hm2]
        split<;>split<;>omega
      ·rw[if_neg ho]
       have hno:¬(P.id=own.id/\a.length<k):=λh=>ho h.1.symm
       rw[if_neg hno]
       rcases hg.pos with⟨e1,e2⟩|⟨e1,e2⟩|⟨e1,j',a',y,b',e2,e3,e4,e5,e6⟩
       ·simp[e1,e2]
       ·simp[e1,e2]
       ·have n0:¬d.it.wh=0:=by omega
        have n1:¬d.it.wh=1:=by omega
        rw[if_neg n0,if_neg n1,e2,jL e5 e3,e6,e4]
        rfl
     rw[hat]
     have hn1:(U.wth own.id F u).ids.Nodup:=by
      refine hn.sublist (wth_sub u hn hp.mem ?_)
      rw[hp.fnd,hF]
      simp only
      rw[U.ids_eq,U.ids_eq own,s.eq,bG,U.idss_app,U.idss_app,U.idss_cons]
      exact((List.Sublist.refl _).append (sublist_append_right _ _)).cons_cons _
     have hm1:P.id∈(U.wth own.id F u).ids:=by
      refine ci.1 ?_
      rw[hway]
      have:=ci.2 hg.mem
      simpa using this
     have:=fq (U.wth own.id F u) hn1 hm1 λl=>aR l (if P.id=own.id/\a.length<k then k-1 else k) x
     rw[hf2]at this
     rw[this]
theorem bq (a b:Int):∀(l:List (List UInt8)) (m:Int),(markW a b l m).length=l.length
 |[],_=>rfl
 |s::l,m=>by rw[markW,length_cons,bq a b l,length_cons]
theorem mC (a b:Int):∀(l r:List (List UInt8)) (m:Int),markW a b (l++r) m=markW a b l m++markW a b r (m+l.length)
 |[],r,m=>by simp[markW]
 |s::l,r,m=>by
  rw[cons_append,markW,mC a b l r,markW,cons_append]
  simp only[length_cons]
  rw[show m+1+(l.length:Int)=m+((l.length+1:Nat):Int)by omega]
/-! ### where a row occurs -/
def occL (row:List (List UInt8)):Nat->Nat->List (List UInt8)->List Nat
 |_,_,[]=>[]
 |k+1,i,_::l=>occL row k (i+1) l
 |0,i,x::l=>if (x::l).take row.length=row then i::occL row (row.length-1) (i+1) l else occL row 0 (i+1) l
theorem mf (row:List (List UInt8)):∀(k i:Nat) (l:List (List UInt8)),occL row k i l=occL row 0 (i+k) (l.drop k)
 |0,i,l=>by simp
 |k+1,i,[]=>by simp[occL]
 |k+1,i,x::l=>by rw[occL,mf row k (i+1) l,drop_succ_cons,show i+1+k=i+(k+1)by omega]
theorem oa {row:List (List UInt8)} {i:Nat} {l:List (List UInt8)} (hr:row≠[]) (h:l.take row.length=row):occL row 0 i l=i::occL row 0 (i+row.length) (l.drop row.length):=by
 cases l with
 |nil=>rw[take_nil]at h;exact absurd h.symm hr
 |cons x l=>
  have hp:1<=row.length:=by cases row<;>simp_all
  rw[occL,if_pos h,mf]
  obtain⟨n,hn⟩:∃n,row.length=n+1:=⟨row.length-1,by omega⟩
  rw[hn,drop_succ_cons,show i+1+(n+1-1)=i+(n+1)by omega]
  rfl
theorem mp {row:List (List UInt8)} {i:Nat} {l:List (List UInt8)} (h:l.take row.length≠row):occL row 0 i l=occL row 0 (i+1) (l.drop 1):=by
 cases l with
 |nil=>simp[occL]
 |cons x l=>rw[occL,if_neg h];rfl
theorem lB {row:List (List UInt8)}:∀{l:List (List UInt8)} {i:Nat},l.length<row.length->occL row 0 i l=[]
 |[],_,_=>by rw[occL]
 |x::l,i,h=>by
  rw[occL,if_neg,lB (by simp at h;omega)]
  intro e
  have:=congrArg List.length e
  simp at this h
  omega
def Gaps (n len:Nat):Nat->List Nat->Prop
 |_,[]=>True
 |s,p::ps=>s<=p/\p+len<=n/\Gaps n len (p+len) ps
theorem Gaps.from {n len:Nat}:∀{ps:List Nat} {s s':Nat},s'<=s->Gaps n len s ps->Gaps n len s' ps
 |[],_,_,_,_=>trivial
 |p::ps,s,s',h,⟨h1,h2,h3⟩=>⟨by omega,h2,h3⟩
theorem gY {row:List (List UInt8)} (hr:row≠[]):∀(k i:Nat) (l:List (List UInt8)),k<=l.length->Gaps (i+l.length) row.length (i+k) (occL row k i l)
 |_,_,[],_=>by rw[occL];trivial
 |k+1,i,x::l,h=>by
  rw[occL]
  have:=gY hr k (i+1) l (by simpa using h)
  rw[show i+(x::l).length=i+1+l.length by simp;omega,show i+(k+1)=i+1+k by omega]
  exact this
 |0,i,x::l,_=>by
  rw[occL]
  have hp:1<=row.length:=by cases row<;>simp_all
  split
  ·rename_i e
   have hle:row.length<=(x::l).length:=by
    have:=congrArg List.length e
    rw[length_take]at this
    omega
   have:=gY hr (row.length-1) (i+1) l (by simp at hle;omega)
   refine⟨by omega,by omega,?_⟩
   rw[show i+(x::l).length=i+1+l.length by simp;omega,show i+row.length=i+1+(row.length-1)by omega]
   exact this
  ·have:=gY hr 0 (i+1) l (by omega)
   rw[show i+(x::l).length=i+1+l.length by simp;omega]
   exact this.from (by omega)
def occs (w:List Wd) (row:List (List UInt8)):List Nat:=occL row 0 0 (w.map Wd.text)
theorem fP {w:List Wd} {row:List (List UInt8)} (hr:row≠[]):Gaps w.length row.length 0 (occs w row):=by
 have:=gY hr 0 0 (w.map Wd.text) (by omega)
 simpa[occs]using this
def bH (ps:List Nat) (nth:Int):List Nat:=if nth=0 then ps else match ps[(nth-1).toNat]? with
 |some p=>[p]
 |none=>[]
theorem kM {n len:Nat}:∀{ps:List Nat} {s j:Nat} {p:Nat},Gaps n len s ps->ps[j]? =some p->s<=p/\p+len<=n
 |[],_,_,_,_,h=>by simp at h
 |q::ps,s,0,p,⟨h1,h2,_⟩,h=>by simp at h;subst h;exact⟨h1,h2⟩
 |q::ps,s,j+1,p,⟨h1,h2,h3⟩,h=>by
  have:=kM h3 (by simpa using h)
  omega
theorem dC {n len:Nat} {ps:List Nat} {nth:Int} (h:Gaps n len 0 ps):Gaps n len 0 (bH ps nth):=by
 unfold bH
 split
 ·exact h
 ·split
  ·rename_i p e
   have:=kM h e
   exact⟨by omega,this.2,trivial⟩
  ·trivial
/-! ### words put at places -/
def dy (w:List Wd) (fresh:List (List UInt8)) (a b:Int) (gone:Nat):Nat->List Nat->Int->List Wd
 |s,[],_=>w.drop s
 |s,p::ps,m=>(w.take p).drop s++(markW a b fresh m++dy w fresh a b gone (p+gone) ps (m+fresh.length))
def putL (w:List Wd) (fresh:List (List UInt8)) (a b:Int) (gone:Nat):List Nat->Int->List Wd
 |[],_=>w
 |p::ps,m=>(putL w fresh a b gone ps (m+fresh.length)).take p++(markW a b fresh m++(putL w fresh a b gone ps (m+fresh.length)).drop (p+gone))
theorem jx (w:List Wd) (fresh:List (List UInt8)) (a b:Int) (gone:Nat):∀(ps:List Nat) (s:Nat) (m:Int),Gaps w.length gone s ps->putL w fresh a b gone ps m=w.take s++dy w fresh a b gone s ps m
 |[],s,m,_=>by rw[putL,dy,take_append_drop]
 |p::ps,s,m,⟨h1,h2,h3⟩=>by
  rw[putL,jx w fresh a b gone ps (p+gone) _ h3,dy]
  have hl:(w.take (p+gone)).length=p+gone:=by rw[length_take];omega
  rw[take_append_of_le_length (by omega),drop_left' hl,take_take,Nat.min_eq_left (by omega)]
  have:w.take p=w.take s++(w.take p).drop s:=by
   conv=>lhs;rw[←take_append_drop s (w.take p),take_take,Nat.min_eq_left h1]
  conv=>lhs;rw[this]
  rw[append_assoc]
theorem jI (w:List Wd) (fresh:List (List UInt8)) (a b:Int) (gone:Nat):∀(ps:List Nat) (s:Nat) (m:Int),Gaps w.length gone s ps->s<=w.length->(dy w fresh a b gone s ps m).length+s+ps.length*gone=w.length+ps.length*fresh.length
 |[],s,m,_,hs=>by rw[dy,length_drop];simp;omega
 |p::ps,s,m,⟨h1,h2,h3⟩,hs=>by
  have ih:=jI w fresh a b gone ps (p+gone) (m+fresh.length) h3 (by omega)
  rw[dy,length_append,length_append,bq,length_drop,length_take,length_cons,Nat.add_mul,Nat.add_mul]
  omega
def editE (w:List Wd) (x:Itm) (a b:Int):List Wd×Int:=
 if x.kind=3/\x.old=[]then (if 256<(markW a b x.new 0++w).length then ([],6)else (markW a b x.new 0++w,0))
 else if bH (occs w x.old) x.nth=[]then ([],4)
 else if x.kind=3 then (if 256<(dy w x.new a b 0 0 ((bH (occs w x.old) x.nth).map (· +x.old.length)) 0).length then ([],6)else (dy w x.new a b 0 0 ((bH (occs w x.old) x.nth).map (· +x.old.length)) 0,0))
 else (if 256<(dy w x.new a b x.old.length 0 (bH (occs w x.old) x.nth) 0).length then ([],6)else (dy w x.new a b x.old.length 0 (bH (occs w x.old) x.nth) 0,0))
theorem fX {n len:Nat}:∀{ps:List Nat} {s:Nat},Gaps n len s ps->Gaps n 0 s (ps.map (· +len))
 |[],_,_=>trivial
 |p::ps,s,⟨h1,h2,h3⟩=>⟨(by show s<=p+len;omega),(by show p+len+0<=n;omega),(fX h3).from (by show p+len+0<=p+len;omega)⟩
theorem Itm.ext' {a b:Itm} (h1:a.kind=b.kind) (h2:a.at_=b.at_) (h3:a.to_=b.to_) (h4:a.wh=b.wh) (h5:a.nth=b.nth) (h6:a.unit=b.unit) (h7:a.old=b.old) (h8:a.new=b.new) (h9:a.label=b.label) (h10:a.for_=b.for_)
  (h11:a.start=b.start) (h12:a.act=b.act) (h13:a.item=b.item) (h14:a.day=b.day) (h15:a.event=b.event) (h16:a.by_=b.by_):a=b:=by
 cases a;cases b;simp_all
theorem sta_eq {a b:Sta} (h:(decide (a.kind=b.kind)&&(decide (a.day=b.day)&&(decide (a.event=b.event)&&true)))=true):a=b:=by
 cases a;cases b;simp_all
theorem sta_ne {a b:Sta} (h:(decide (a.kind=b.kind)&&(decide (a.day=b.day)&&(decide (a.event=b.event)&&true)))=false):a≠b:=by
 rintro rfl;simp at h
section
variable (G:Glob)
set_option maxHeartbeats 4000000 in
theorem f138:∀(a:Itm),a.fit->∀b:Itm,Pure G Tryz.prog 138 [.agg a.cs,.agg b.cs] (.bool (decide (a=b))):=by
 refine Itm.ind λa ih hfit b=>?_
 obtain⟨h1,h2,h3,h4,h5,h6,h7⟩:=(Itm.fit_eq a).1 hfit
 refine Pure.w c138 λR hR=>?_
 unfold s138 r138
 (repeat' (first|(with_reducible (first|refine ae (λh=>?_) (λh=>?_)|refine ag (λh=>?_) (λh=>?_))<;>(try simp only[Da,Db,Dc,Dw,De,Df,Dg,Dh]at h))|(with_reducible refine AI (by omega) ?_)|(with_reducible first|refine ab (f190 G _ _ (by omega)) ?_|refine ab (f192 G a.unit h3 b.unit) ?_|refine ab (f191 G _ _ (by omega)) ?_|refine ab (ih x hx.mem (h7 x hx.mem) y) ?_)|simp only[EVz,seval,↓reduceIte,EV6,EV7,U.cs_fold,hx.yes,hx.le0,hx.lt',hx.get,hx.row,hw,hy.row,hy.lt']|simp only[EVz,seval,↓reduceIte,EV6,EV7,U.cs_fold,hn]|simp only[EVz,seval,↓reduceIte,EV6,EV7,U.cs_fold]|(with_reducible refine ak ?_ ?_)|(with_reducible refine am ?_)|(refine af hx () ?_ (Weak.rfl' _ _))|(refine Zq a.by_ (λi r (c:Unit)=>a.by_.length=b.by_.length/\decide (a.by_=b.by_)=decide (r=b.by_.drop i)) (λi c=>[(2,.ref a.cs),(3,.ref b.cs),(5,.int .i64 i)]) (λ_ _=>[]) () ⟨by omega,by simp⟩ (Weak.rfl' _ _) (by omega) (λi x r c hok hx hw=>?_) (λc hok hn=>?_)<;>(try(obtain⟨y,r2,hy,hyn,hok⟩:=cr hok hx)))|fail))
 all_goals first
  |(refine RET.eq hR (congrArg AV.bool (Eq.symm (decide_eq_false ?_)));rintro rfl;exact absurd rfl h)
  |(refine RET.eq hR (congrArg AV.bool (Eq.symm (decide_eq_false ?_)));rintro rfl;simp at h;done)
  |skip
 all_goals first
  |(have hbn:decide (a.by_=b.by_)=false:=by rw[hok];simp[h]
    refine RET.eq hR (congrArg AV.bool (Eq.symm (decide_eq_false ?_)));rintro rfl;simp at hbn;done)
  |(rw[hok,hyn,h];simp;done)
  |(rw[hok,hyn];simp[h];done)
  |(have hby:a.by_=b.by_:=by have:=hok.2;rw[hok.1,drop_length]at this;simpa using this
    refine RET.eq hR (congrArg AV.bool (Eq.symm (decide_eq_true ?_)))
    exact Itm.ext' (Classical.not_not.1 (by assumption)) (by assumption) (by assumption) (Classical.not_not.1 (by assumption)) (Classical.not_not.1 (by assumption)) (by assumption) (by assumption) (by assumption) (Classical.not_not.1 (by assumption)) (Classical.not_not.1 (by assumption))
     (sta_eq (by assumption)) (Classical.not_not.1 (by assumption)) (Classical.not_not.1 (by assumption)) (Classical.not_not.1 (by assumption)) (Classical.not_not.1 (by assumption)) hby)
  |trace_state
end
def Itm.just (x:Itm):Itm:=
 if x.kind=0 then {iz with wh:=x.wh,unit:=x.unit}else if x.kind=2\/x.kind=3 then {iz with old:=x.old,new:=x.new,nth:=x.nth}else if x.kind=4 then {iz with new:=x.new}else
 if x.kind=5 then {iz with label:=x.label}else if x.kind=6 then {iz with to_:=x.to_,wh:=x.wh}else if x.kind=7\/x.kind=8\/x.kind=9 then {iz with act:=x.act,item:=x.item,day:=x.day}else
 if x.kind=10 then {iz with event:=x.event,day:=x.day}else if x.kind=11 then {iz with act:=x.act,item:=x.item,by_:=x.by_}else iz
def Itm.told (x:Itm):Itm:=if x.kind<=6 then {x.just with kind:=x.kind,at_:=x.at_,for_:=x.for_,start:=x.start}else {x.just with kind:=x.kind}
section
variable (G:Glob)
set_option maxHeartbeats 4000000 in
theorem f139 (x:Itm) (h0:0<=x.kind) (h11:x.kind<=11):Pure G Tryz.prog 139 [.agg x.cs] (.agg x.told.cs):=by
 refine Pure.w c139 λR hR=>?_
 unfold s139 r139
 have hk:x.kind=0\/x.kind=1\/x.kind=2\/x.kind=3\/x.kind=4\/x.kind=5\/x.kind=6\/x.kind=7\/x.kind=8\/x.kind=9\/x.kind=10\/x.kind=11:=by omega
 rcases hk with hk|hk|hk|hk|hk|hk|hk|hk|hk|hk|hk|hk
 all_goals
  (repeat' (first|simp only[EVz,seval,↓reduceIte,EV6,EV7,hk,hne]|simp only[EVz,seval,↓reduceIte,EV6,EV7,hk]|(with_reducible intro blk hblk;(try(have hnx:=hblk;simp only[EVK]at hnx;first|(have hne:=AI hnx hne)|(have hne:=hnx))))|fail))
  refine hR _ _ (Or.inr ?_)
  rw[Itm.cs_eq]
  simp[bz,aP,Itm.told,Itm.just,iz,hk]
end
structure Itm.Short1 (x:Itm):Prop where
 fit:x.fit
 unit:x.unit.Short
 at_:x.at_.length<1000000
 to_:x.to_.length<1000000
 atl:∀s∈x.at_,s.label.length<1000000000000000000
 tol:∀s∈x.to_,s.label.length<1000000000000000000
 old:x.old.length<1000000
 new:x.new.length<1000000
 label:x.label.length<1000000000000000000
 for_:x.for_.length<1000000000000000000
 start:x.start.event.length<1000000000000000000
 event:x.event.length<1000000000000000000
mutual
def Itm.Shorts:Itm->Prop
 |⟨k,a,t,wh,n,u,o,w,l,f,s,ac,it,d,e,b⟩=>Itm.Short1 ⟨k,a,t,wh,n,u,o,w,l,f,s,ac,it,d,e,b⟩/\Itm.Shortss b
def Itm.Shortss:List Itm->Prop
 |[]=>True
 |x::l=>Itm.Shorts x/\Itm.Shortss l
end
theorem Itm.Shortss_iff:∀{us:List Itm},Itm.Shortss us↔∀k∈us,k.Shorts
 |[]=>by simp[Itm.Shortss]
 |u::us=>by simp[Itm.Shortss,Itm.Shortss_iff (us:=us)]
theorem Itm.Shorts_eq (x:Itm):x.Shorts↔x.Short1/\∀k∈x.by_,k.Shorts:=by
 cases x
 rw[Itm.Shorts,Itm.Shortss_iff]
def cY (l:List (List UInt8)) (n:Int):Bool:=dU l&&decide (n<=(l.length:Int))
def Itm.own (x:Itm) (y:Bool):Bool:=
 if x.kind=0 then inR x.wh 0 3&&(bareOk x.unit&&(decide (x.unit.kind≠0)&&decide ((textOf x.unit).2=0)))
 else if x.kind=2 then cY x.old 1&&(cY x.new 0&&inR x.nth 0 256)
 else if x.kind=3 then cY x.old 0&&(cY x.new 1&&(inR x.nth 0 256&&(decide (0<(x.old.length:Int))||decide (x.nth=0))))
 else if x.kind=4 then cY x.new 0
 else if x.kind=5 then bC x.label
 else if x.kind=6 then inR x.wh 0 3&&cC x.to_
 else if x.kind=7\/x.kind=8\/x.kind=9 then inR x.act 1 1048576&&(inR x.item (-1) 31&&inR x.day 0 1048576)
 else if x.kind=10 then d9 x.event&&inR x.day 0 1048576
 else if x.kind=11 then inR x.act 1 1048576&&(inR x.item 0 31&&y)
 else true
def Itm.pre (x:Itm):Bool:=(inR x.kind 0 11&&decide (x=x.told))&&(decide (6<x.kind)||(cC x.at_&&((decide (x.for_=[])||d9 x.for_)&&jv x.start)))
mutual
def Itm.may:Itm->Bool
 |⟨k,a,t,wh,n,u,o,w,l,f,s,ac,it,d,e,b⟩=>Itm.pre ⟨k,a,t,wh,n,u,o,w,l,f,s,ac,it,d,e,b⟩&&Itm.own ⟨k,a,t,wh,n,u,o,w,l,f,s,ac,it,d,e,b⟩ (Itm.mayOne b)
def Itm.mayOne:List Itm->Bool
 |[]=>false
 |x::l=>(l.isEmpty&&inR x.kind 0 6)&&Itm.may x
end
theorem Itm.may_eq (x:Itm):x.may=(x.pre&&x.own (Itm.mayOne x.by_)):=by cases x;rw[Itm.may]
theorem Itm.mayOne_cons (x:Itm) (l:List Itm):Itm.mayOne (x::l)=((l.isEmpty&&inR x.kind 0 6)&&x.may):=by rw[Itm.mayOne]
section
variable (G:Glob)
set_option maxHeartbeats 8000000 in
theorem f72:∀(x:Itm),x.Shorts->Pure G Tryz.prog 72 [.agg x.cs] (.bool x.may):=by
 refine Itm.ind λx ih hs=>?_
 obtain⟨q,hby⟩:=(Itm.Shorts_eq x).1 hs
 refine Pure.w c72 λR hR=>?_
 unfold s72 r72
 rw[Itm.may_eq]at hR
 have hIn:=λn lo hi=>f137 G n lo hi
 by_cases hk:0<=x.kind/\x.kind<=11
 ·have hT:=f139 G x hk.1 hk.2
  have hS:=f138 G x q.fit x.told
  have hkk:x.kind=0\/x.kind=1\/x.kind=2\/x.kind=3\/x.kind=4\/x.kind=5\/x.kind=6\/x.kind=7\/x.kind=8\/x.kind=9\/x.kind=10\/x.kind=11:=by omega
  unfold Itm.pre at hR
  generalize decide (x=x.told)=e at*
  have hrow:∀l:List (List UInt8),l.length<1000000->∀n,Pure G Tryz.prog 145 [.lst 1 (l.map srow),.int .i64 n] (.bool (cY l n)):=λl hl n=>f145 G l n (by omega)
  have hro:=hrow _ q.old
  have hrn:=hrow _ q.new
  rcases hkk with hk|hk|hk|hk|hk|hk|hk|hk|hk|hk|hk|hk
  all_goals (try (have hne11 : x.kind ≠ 11 := by omega
                  (repeat' (first | (with_reducible (first | refine ae (fun h => ?_) (fun h => ?_) | refine ag (fun h => ?_) (fun h => ?_)) <;> (try simp only [Da, Db, Dc, Dw, De, Df, Dg, Dh] at h)) | (with_reducible refine ab (hIn _ _ _) ?_) | (with_reducible refine ab hT ?_) | (with_reducible refine ab hS ?_) | (with_reducible refine ab (hro _) ?_) | (with_reducible refine ab (hrn _) ?_) | (with_reducible refine ab (f140 G _ q.at_ q.atl) ?_) | (with_reducible refine ab (f140 G _ q.to_ q.tol) ?_) | (with_reducible refine ab (f141 G _) ?_) | (with_reducible refine ab (f142 G _) ?_) | (with_reducible refine ab (f143 G x.unit q.unit) ?_) | (with_reducible refine ab (f144 G x.unit q.unit) ?_) | (with_reducible refine ab (f146 G _ q.label) ?_) | simp only [EVz, seval, ↓reduceIte, EV6, EV7, hk, U.cs_fold, inR] | fail))
                  all_goals (try (first
                    | exact absurd h (by decide)
                    | (refine RET.eq hR (congrArg AV.bool ?_); simp [Itm.own, inR, *]; done)
                    | (have hf : x.for_ = [] := Classical.not_not.1 (by assumption)
                       refine RET.eq hR (congrArg AV.bool ?_); simp [Itm.own, inR, hf, *]; done)
                    | (refine RET.eq hR (congrArg AV.bool ?_); simp_all [Itm.own, inR]; done)
                    | (refine RET.eq hR (congrArg AV.bool ?_); simp_all [Itm.own, inR]; omega)))))
  have hR2:=hR
  rw[show x.own (Itm.mayOne x.by_)=(inR x.act 1 1048576&&(inR x.item 0 31&&Itm.mayOne x.by_))by unfold Itm.own;simp[hk]]at hR
  rcases hb:x.by_ with _|⟨y,_|⟨z,l⟩⟩
  ·rw[hb,Itm.mayOne]at hR
   (repeat' (first|(with_reducible (first|refine ae (λh=>?_) (λh=>?_)|refine ag (λh=>?_) (λh=>?_))<;>(try simp only[Da,Db,Dc,Dw,De,Df,Dg,Dh]at h))|(with_reducible first|refine ab (hIn _ _ _) ?_|refine ab hT ?_|refine ab hS ?_)|simp only[EVz,seval,↓reduceIte,EV6,EV7,hk,U.cs_fold,inR,hb,map_nil,length_nil]|fail))
   all_goals(refine RET.eq hR (congrArg AV.bool ?_);simp[inR, *];done)
  ·rw[hb,Itm.mayOne_cons]at hR
   have hy:=ih y (by rw[hb];simp) (hby y (by rw[hb];simp))
   (repeat' (first|(with_reducible (first|refine ae (λh=>?_) (λh=>?_)|refine ag (λh=>?_) (λh=>?_))<;>(try simp only[Da,Db,Dc,Dw,De,Df,Dg,Dh]at h))|(with_reducible first|refine ab (hIn _ _ _) ?_|refine ab hT ?_|refine ab hS ?_|refine ab hy ?_)|simp only[EVz,seval,↓reduceIte,EV6,EV7,hk,U.cs_fold,hb,map_cons,map_nil,length_nil,length_cons,getD_cons_zero]|fail))
   all_goals(try(refine RET.eq hR (congrArg AV.bool ?_);simp_all[inR];done))
   all_goals(refine RET.eq hR (congrArg AV.bool ?_);simp[*];done)
  ·rw[hb,Itm.mayOne_cons]at hR
   (repeat' (first|(with_reducible (first|refine ae (λh=>?_) (λh=>?_)|refine ag (λh=>?_) (λh=>?_))<;>(try simp only[Da,Db,Dc,Dw,De,Df,Dg,Dh]at h))|(with_reducible refine AI (by omega) ?_)|(with_reducible first|refine ab (hIn _ _ _) ?_|refine ab hT ?_|refine ab hS ?_)|simp only[EVz,seval,↓reduceIte,EV6,EV7,hk,U.cs_fold,hb,map_cons,length_cons]|(exfalso;omega)|fail))
   all_goals(try(refine RET.eq hR (congrArg AV.bool ?_);simp_all[inR];done))
   all_goals trace_state
 ·have hno:inR x.kind 0 11=false:=by unfold inR;simp;omega
  unfold Itm.pre at hR
  rw[hno]at hR
  (repeat' (first|(with_reducible refine ab (hIn _ _ _) ?_)|simp only[EVz,seval,↓reduceIte,EV6,EV7,hno]|fail))
  all_goals(refine RET.eq hR (congrArg AV.bool ?_);simp;done)
end
/-! ### addresses -/
def aJ (u:U) (s:Stp):Bool:=decide (u.kind=s.kind)&&decide (u.label=s.label)
def j5 (s:Stp):Bool:=decide (s.kind=0)&&decide (s.label=[])
def ay (l:List U) (s:Stp):List U:=l.flatMap λx=>x.kids.filter λk=>aJ k s
def eu (u:U) (p:List Stp):List U:=
 if cC p=false then []else match p with
 |[]=>[u]
 |s::r=>r.foldl ay (if j5 s then [u]else u.flat.filter λx=>aJ x s)
def one (u:U) (p:List Stp):Idd×Int:=match eu u p with
 |[]=>(⟨0,0,0⟩,7)
 |[x]=>(x.id,0)
 |_=>(⟨0,0,0⟩,8)
theorem iY {u x k:U} (hx:x∈u.flat) (hk:k∈x.kids):k∈u.flat:=by
 revert hx
 refine U.ind (p:=λu=>x∈u.flat->k∈u.flat) (λu ih hx=>?_) u
 rw[U.flat_eq]at hx ⊢
 rcases mem_cons.1 hx with rfl|hx
 ·exact mem_cons_of_mem _ (gB hk (by rw[U.flat_eq];simp))
 ·have:∀{us:List U},x∈U.flats us->∃k∈us,x∈k.flat:=by
   intro us
   induction us with
   |nil=>intro h;rw[U.flats]at h;cases h
   |cons a us ih=>
    intro h
    rw[U.flats,mem_append]at h
    rcases h with h|h
    ·exact⟨a,by simp,h⟩
    ·obtain⟨k,hk,hx⟩:=ih h;exact⟨k,by simp[hk],hx⟩
  obtain⟨y,hy,hxy⟩:=this hx
  exact mem_cons_of_mem _ (gB hy (ih y hy hxy))
theorem kw {u:U}:∀{r:List Stp} {l:List U},(∀x∈l,x∈u.flat)->∀x∈r.foldl ay l,x∈u.flat
 |[],l,h,x,hx=>h x hx
 |s::r,l,h,x,hx=>kw (l:=ay l s) (λy hy=>by
   obtain⟨z,hz,hy⟩:=mem_flatMap.1 hy
   exact iY (h z hz) (mem_filter.1 hy).1) x hx
theorem po {u:U} {p:List Stp}:∀x∈eu u p,x∈u.flat:=by
 intro x hx
 have h0:u∈u.flat:=by rw[U.flat_eq];simp
 unfold eu at hx
 split at hx
 ·cases hx
 ·split at hx
  ·simp only[mem_singleton]at hx;subst hx;exact h0
  ·refine kw ?_ x hx
   intro y hy
   split at hy
   ·simp only[mem_singleton]at hy;subst hy;exact h0
   ·exact(mem_filter.1 hy).1
theorem bU {u:U} {p:List Stp} (h:(one u p).2=0):(one u p).1∈u.ids:=by
 have hf:=po (u:=u) (p:=p)
 unfold one at h ⊢
 split at h
 ·cases h
 ·rename_i x e
  rw[e]at hf
  exact mem_map.2 ⟨x,hf x (by simp),rfl⟩
 ·cases h
/-! ### an item applied -/
def chg (k:Int):Bool:=decide (0<=k)&&decide (k<=6)
def doP (u:U) (d:Dd):U×Int:=
 if chg d.it.kind=false\/d.it.may=false then (u,1)
 else if (one u d.it.at_).2≠0 then (u,(one u d.it.at_).2)
 else if d.it.kind=0 then insP u (one u d.it.at_).1 d
 else if (one u d.it.at_).1=u.id then (if d.it.kind=6/\(one u d.it.to_).2≠0 then (u,(one u d.it.to_).2)else (u,9))
 else if d.it.kind=1 then (without (one u d.it.at_).1 u,0)
 else if d.it.kind=2\/d.it.kind=3 then
  (if (editE (fnd (one u d.it.at_).1 u).words d.it d.act d.item).2≠0 then (u,(editE (fnd (one u d.it.at_).1 u).words d.it d.act d.item).2)
   else (U.wth (one u d.it.at_).1 (λy=>{y with words:=(editE (fnd (one u d.it.at_).1 u).words d.it d.act d.item).1}) u,0))
 else if d.it.kind=4 then (U.wth (one u d.it.at_).1 (λy=>{y with head:=markW d.act d.item d.it.new 0}) u,0)
 else if d.it.kind=5 then
  (if bJ (parR (one u d.it.at_).1 u).1 (parR (one u d.it.at_).1 u).1.kids {fnd (one u d.it.at_).1 u with label:=d.it.label}=10 then (u,10)
   else (U.wth (one u d.it.at_).1 (λy=>{y with label:=d.it.label}) u,0))
 else if (one u d.it.to_).2≠0 then (u,(one u d.it.to_).2)
 else movP u (one u d.it.at_).1 (one u d.it.to_).1 d
def doR (u:U) (d:Dd):U×Int:=
 if chg d.it.kind=false\/d.it.may=false then (u,1)
 else if (one u d.it.at_).2≠0 then (u,(one u d.it.at_).2)
 else if d.it.kind=0 then insR u (one u d.it.at_).1 d
 else if d.it.kind=6 then (if (one u d.it.to_).2≠0 then (u,(one u d.it.to_).2)else movR u (one u d.it.at_).1 (one u d.it.to_).1 d)
 else if (one u d.it.at_).1=u.id then (u,9)
 else if d.it.kind=1 then (U.put {(parR (one u d.it.at_).1 u).1 with kids:=aL (parR (one u d.it.at_).1 u).1.kids (parR (one u d.it.at_).1 u).2.2} u,0)
 else if d.it.kind=2\/d.it.kind=3 then
  (if (editE (fnd (one u d.it.at_).1 u).words d.it d.act d.item).2≠0 then (u,(editE (fnd (one u d.it.at_).1 u).words d.it d.act d.item).2)
   else (U.put {fnd (one u d.it.at_).1 u with words:=(editE (fnd (one u d.it.at_).1 u).words d.it d.act d.item).1} u,0))
 else if d.it.kind=4 then (U.put {fnd (one u d.it.at_).1 u with head:=markW d.act d.item d.it.new 0} u,0)
 else if cK (parR (one u d.it.at_).1 u).1.kids (fnd (one u d.it.at_).1 u).kind d.it.label then (u,10)
 else (U.put {fnd (one u d.it.at_).1 u with label:=d.it.label} u,0)
theorem np {i:Idd} (u:U) (hn:u.ids.Nodup) (hi:i∈u.ids) (f:U->U) (hf:(f (fnd i u)).id=i):U.put (f (fnd i u)) u=U.wth i f u:=by
 obtain⟨h1,h2⟩:=dj u hn hi
 have h:=put_wth (x:=f (fnd i u)) (f:=f) u hn (by rw[hf];exact hi) (λy hy=>by
  rw[hf,h2]at hy
  injection hy with hy
  rw[hy])
 rw[hf]at h
 exact h
structure Fine (u:U):Prop where
 nd:u.ids.Nodup
 few:∀y∈u.flat,y.kids.length<=64
 nest:∀y∈u.flat,∀k∈y.kids,nests y.kind k.kind=true
theorem do_eq (u:U) (hu:Fine u) (d:Dd) (hw:d.it.may=true->d.it.kind=0\/d.it.kind=6->0<=d.it.wh/\d.it.wh<=3):doR u d=doP u d:=by
 unfold doR doP
 by_cases h1:chg d.it.kind=false\/d.it.may=false
 ·rw[if_pos h1,if_pos h1]
 rw[if_neg h1,if_neg h1]
 have hm:d.it.may=true:=by cases h:d.it.may<;>simp_all
 have hc:0<=d.it.kind/\d.it.kind<=6:=by
  have:chg d.it.kind=true:=by cases h:chg d.it.kind<;>simp_all
  simpa[chg]using this
 by_cases h2:(one u d.it.at_).2≠0
 ·rw[if_pos h2,if_pos h2]
 rw[if_neg h2,if_neg h2]
 have hi:=bU (u:=u) (p:=d.it.at_) (by simpa using h2)
 obtain⟨i,hie⟩:∃i,(one u d.it.at_).1=i:=⟨_,rfl⟩
 rw[hie]at hi ⊢
 obtain⟨f1,f2⟩:=dj u hu.nd hi
 by_cases h3:d.it.kind=0
 ·rw[if_pos h3,if_pos h3]
  exact ins_eq u hu.nd i hi d (hw hm (.inl h3)).1 (hw hm (.inl h3)).2
 rw[if_neg h3,if_neg h3]
 by_cases h6:d.it.kind=6
 ·rw[if_pos h6]
  have k1:¬d.it.kind=1:=by omega
  have k2:¬(d.it.kind=2\/d.it.kind=3):=by omega
  have k4:¬d.it.kind=4:=by omega
  have k5:¬d.it.kind=5:=by omega
  by_cases hiu:i=u.id
  ·rw[if_pos hiu]
   by_cases h7:(one u d.it.to_).2≠0
   ·rw[if_pos h7,if_pos ⟨h6,h7⟩]
   ·rw[if_neg h7,if_neg λh=>h7 h.2]
    unfold movR
    simp only
    rw[if_pos (.inl hiu)]
  ·rw[if_neg hiu,if_neg k1,if_neg k2,if_neg k4,if_neg k5]
   by_cases h7:(one u d.it.to_).2≠0
   ·rw[if_pos h7,if_pos h7]
   ·rw[if_neg h7,if_neg h7]
    have ht:=bU (u:=u) (p:=d.it.to_) (by simpa using h7)
    exact mov_eq u hu.nd hu.few i _ hi ht hiu d (hw hm (.inr h6)).1 (hw hm (.inr h6)).2
 rw[if_neg h6]
 by_cases hiu:i=u.id
 ·rw[if_pos hiu,if_pos hiu,if_neg λh=>h6 h.1]
 rw[if_neg hiu,if_neg hiu]
 obtain⟨own,dO,j,w1,w2,hp⟩:=aW hu.nd hi (Ne.symm hiu)
 have hput:∀g:List U->List U,U.put {own with kids:=g own.kids} u=U.wth own.id (λy=>{y with kids:=g y.kids}) u:=λg=>by
  have:=fq u hu.nd hp.mem g
  rw[hp.fnd]at this
  exact this
 by_cases k1:d.it.kind=1
 ·rw[if_pos k1,if_pos k1,w2]
  simp only
  rw[hput λl=>aL l j]
  unfold without
  rw[w1]
 rw[if_neg k1,if_neg k1]
 by_cases k2:d.it.kind=2\/d.it.kind=3
 ·rw[if_pos k2,if_pos k2]
  split
  ·rfl
  ·rw[←np u hu.nd hi (λy=>{y with words:=(editE (fnd i u).words d.it d.act d.item).1}) f1]
 rw[if_neg k2,if_neg k2]
 by_cases k4:d.it.kind=4
 ·rw[if_pos k4,if_pos k4,←np u hu.nd hi (λy=>{y with head:=markW d.act d.item d.it.new 0}) f1]
 rw[if_neg k4,if_neg k4]
 have k5:d.it.kind=5:=by omega
 rw[if_pos k5,w2]
 simp only
 obtain⟨a,k,b,s,hk,hj,hl⟩:=hp.split
 have hfk:fnd i u=k:=aF hl
 have hown:own∈u.flat:=by
  have:=aM u hu.nd hp.mem
  rw[hp.fnd]at this;exact this
 have hnest:=hu.nest own hown k (by rw[s.eq];simp)
 have ht:bJ own own.kids {fnd i u with label:=d.it.label}=10↔cK own.kids (fnd i u).kind d.it.label=true:=by
  unfold bJ
  simp only
  rw[hfk,hnest]
  simp
 by_cases h8:cK own.kids (fnd i u).kind d.it.label=true
 ·rw[if_pos h8,if_pos (ht.2 h8)]
 ·rw[if_neg h8,if_neg λh=>h8 (ht.1 h),←np u hu.nd hi (λy=>{y with label:=d.it.label}) f1]
end Go.Av
