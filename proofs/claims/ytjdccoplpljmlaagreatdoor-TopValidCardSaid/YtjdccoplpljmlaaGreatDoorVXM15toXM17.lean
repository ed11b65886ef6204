/-
  ENACT, M15: rows cloned into cells of the callee's own; rows cut out and put in.
-/
import Derived.Test.YtjdccoplpljmlaaGreatDoorVXC4
import Derived.Test.YtjdccoplpljmlaaGreatDoorVXC5
import Derived.Test.YtjdccoplpljmlaaGreatDoorVXC6toXE3
import Derived.Test.YtjdccoplpljmlaaGreatDoorVXM1toXL34
import Derived.Test.YtjdccoplpljmlaaGreatDoorVXY10toXL27
import Derived.Test.YtjdccoplpljmlaaGreatDoorVXAv34toXY2
import Derived.Test.YtjdccoplpljmlaaGreatDoorVXL35toXM9
namespace Go.Av
open Go Go.RowKit Go.Proofs List
set_option linter.unusedSimpArgs false
set_option linter.unusedVariables false
section
variable (G:Glob)
theorem f330 (rows:List (List AV)) (T:∀r∈rows,r.length=8) (Y:rows.length<1000000):aj G Tryz.prog 330 [.lst 8 rows] [] (λr σ=>aO 29 8 rows r σ):=by
 refine aj.w c330 ?_
 unfold s330 r330
 simp only[EV1,EV2,EV3,EV4,EV5,Option.map_some,decide_true,decide_false,seval,↓reduceIte,eq_self]
 intro V I
 refine ab (λh=>?_) (λh=>?_)
 ·simp only[EV1,EV2,EV3,EV4,EV5,Option.map_some,decide_true,decide_false,seval,↓reduceIte,eq_self]
  have F:rows=[]:=by
   rcases Classical.em (rows=[])with E|E
   ·exact E
   ·rw[I E]at h;cases h
  subst F
  exact RET.le (y:=.sc (.slice none 0 0)) (Or.inl (Or.inr rfl)) (SubN.refl _) (dZ (.inl rfl))
 ·simp only[EV1,EV2,EV3,EV4,EV5,Option.map_some,decide_true,decide_false,seval,↓reduceIte,eq_self]
  refine ez (e:=29) (n:=8) (by kernel_rfl) (by kernel_rfl) (λv J=>?_)
  simp only[EV1,EV2,EV3,EV4,EV5,Option.map_some,decide_true,decide_false,seval,↓reduceIte,eq_self]
  refine aY (e:=29) (e':=29) (sz:=8) (bytes:=120) (rows:=[]) (ys:=rows) (g:=none) (xv:=.sc v) (by kernel_rfl) (by kernel_rfl) (by kernel_rfl) (by kernel_rfl) (by decide) (by decide) rfl (.inl ⟨rfl,rfl,.inr ⟨v,rfl,J⟩⟩) ?_ ?_ ?_ ?_
  ·exact⟨rfl,rfl⟩
  ·simp;omega
  ·intro _ F
   subst F
   simp only[EV1,EV2,EV3,EV4,EV5,Option.map_some,decide_true,decide_false,seval,↓reduceIte,eq_self]
   exact RET.mk' (SubN.refl _) (dZ J)
  ·intro b cap pad X E M N O
   simp only[EV1,EV2,EV3,EV4,EV5,Option.map_some,decide_true,decide_false,seval,↓reduceIte,eq_self]
   simp only[nil_append]at*
   exact RET.mk' (SubN.refl _) (aO.mk rfl E M N O)
theorem f337 (rows:List (List AV)) (T:∀r∈rows,r.length=1) (Y:rows.length<1000000):aj G Tryz.prog 337 [.lst 1 rows] [] (λr σ=>aO 3 1 rows r σ):=by
 refine aj.w c337 ?_
 unfold s337 r337
 simp only[EV1,EV2,EV3,EV4,EV5,Option.map_some,decide_true,decide_false,seval,↓reduceIte,eq_self]
 intro V I
 refine ab (λh=>?_) (λh=>?_)
 ·simp only[EV1,EV2,EV3,EV4,EV5,Option.map_some,decide_true,decide_false,seval,↓reduceIte,eq_self]
  have F:rows=[]:=by
   rcases Classical.em (rows=[])with E|E
   ·exact E
   ·rw[I E]at h;cases h
  subst F
  exact RET.le (y:=.sc (.slice none 0 0)) (Or.inl (Or.inr rfl)) (SubN.refl _) (dZ (.inl rfl))
 ·simp only[EV1,EV2,EV3,EV4,EV5,Option.map_some,decide_true,decide_false,seval,↓reduceIte,eq_self]
  refine ez (e:=3) (n:=1) (by kernel_rfl) (by kernel_rfl) (λv J=>?_)
  simp only[EV1,EV2,EV3,EV4,EV5,Option.map_some,decide_true,decide_false,seval,↓reduceIte,eq_self]
  refine aY (e:=3) (e':=3) (sz:=1) (bytes:=8) (rows:=[]) (ys:=rows) (g:=none) (xv:=.sc v) (by kernel_rfl) (by kernel_rfl) (by kernel_rfl) (by kernel_rfl) (by decide) (by decide) rfl (.inl ⟨rfl,rfl,.inr ⟨v,rfl,J⟩⟩) ?_ ?_ ?_ ?_
  ·exact⟨rfl,rfl⟩
  ·simp;omega
  ·intro _ F
   subst F
   simp only[EV1,EV2,EV3,EV4,EV5,Option.map_some,decide_true,decide_false,seval,↓reduceIte,eq_self]
   exact RET.mk' (SubN.refl _) (dZ J)
  ·intro b cap pad X E M N O
   simp only[EV1,EV2,EV3,EV4,EV5,Option.map_some,decide_true,decide_false,seval,↓reduceIte,eq_self]
   simp only[nil_append]at*
   exact RET.mk' (SubN.refl _) (aO.mk rfl E M N O)
set_option maxHeartbeats 1000000 in
theorem f334 (rows:List (List AV)) (v:AV) (κ:Store) (ho:aO 29 8 rows v κ) (j:Nat) (hj:j<rows.length) (hl:rows.length<1000000):
  aj G Tryz.prog 334 [v,.int .i64 j,.int .i64 ((j+1:Nat):Int)] κ (λr σ'=>aO 29 8 (rows.take j++rows.drop (j+1)) r σ'):=by
 obtain⟨ag,cap,rfl,h⟩:=ho
 rcases h with⟨rfl,rfl,rfl⟩|⟨b,pad,rfl,rfl,h1,h2,F,Y⟩
 ·simp at hj
 refine aj.w c334 ?_
 unfold s334 r334
 have e0:decide ((j:Int)=((j+1:Nat):Int))=false:=decide_eq_false (by omega)
 obtain⟨O,V⟩:∃O,(if cap=j+1 then 0 else 0+(j+1)*8)=O:=⟨_,rfl⟩
 have Z:O=(j+1)*8\/j+1=rows.length/\O=0:=by
  subst V
  split
  ·exact .inr ⟨by omega,rfl⟩
  ·exact .inl (by omega)
 have ah:=ap rows F
 obtain⟨D,hD⟩:∃D,(rows.flatten++pad).drop (0+j*8+(rows.drop (j+1)).flatten.length)=D:=⟨_,rfl⟩
 have J:(rows.drop (j+1)).flatten.length=(rows.length-(j+1))*8:=by rw[ap _ (λr E=>F r (mem_of_mem_drop E)),length_drop]
 have ad:(rows.take j).flatten.length=j*8:=by rw[ap _ (λr E=>F r (mem_of_mem_take E)),length_take,Nat.min_eq_left (by omega)]
 have I:D.length=cap*8-(rows.length-1)*8:=by rw[←hD,length_drop,Y,J];omega
 have ac:splice (rows.flatten++pad) (0+j*8) (rows.drop (j+1)).flatten=(rows.take j++rows.drop (j+1)).flatten++(D.take 8++D.drop 8):=by
  rw[aR _ _ _ (by rw[J,Y];omega),hD,Nat.zero_add,lh F (by omega),flatten_append,take_append_drop]
 have X:splice ((rows.take j++rows.drop (j+1)).flatten++(D.take 8++D.drop 8)) ((rows.length-1)*8) [[AV.int .i64 0,.int .i64 0,.int .i64 0,.int .i64 0,.str [],.nil,.nil,.nil]].flatten=(rows.take j++rows.drop (j+1)).flatten++(zU++D.drop 8):=by
  refine ej ?_ ?_
  ·rw[flatten_append,length_append,ad,J];omega
  ·rw[length_take,I];simp[zU];omega
 have M:∀r∈rows.take j++rows.drop (j+1),r.length=8:=λr E=>by
  rcases mem_append.1 E with E|E
  ·exact F r (mem_of_mem_take E)
  ·exact F r (mem_of_mem_drop E)
 have N:(rows.take j++rows.drop (j+1)).length=rows.length-1:=by rw[length_append,length_take,length_drop];omega
 have T:j+(rows.drop (j+1)).length=rows.length-1:=by rw[length_drop];omega
 generalize al:rows.take j++rows.drop (j+1)=rows' at*
 (repeat' (first|simp only[EVz,seval,↓reduceIte,EV6,EV7,e0,ac,T,X]|(with_reducible first|refine ae ?_ ?_|refine af ?_)|(refine aS (e:=29) (sz:=8) (l:=j) (h:=j+1) (m:=rows.length) _ _ _ (by kernel_rfl) (by kernel_rfl) rfl ⟨_,rfl⟩ ⟨_,rfl⟩ ⟨_,rfl⟩ (λ_=>rfl) (by omega) (by omega) h1 rfl rfl rfl ?_)|(refine aS (e:=29) (sz:=8) (l:=0) (h:=j) (m:=cap) 0 j cap (by kernel_rfl) (by kernel_rfl) rfl rfl ⟨_,rfl⟩ rfl (λh=>by cases h) (by omega) (by omega) (Nat.le_refl _) (by split<;>rfl) rfl rfl ?_)|(refine aS (e:=29) (sz:=8) (l:=j+1) (h:=rows.length) (m:=cap) O (rows.length-(j+1)) (cap-(j+1)) (by kernel_rfl) (by kernel_rfl) rfl ⟨_,rfl⟩ rfl rfl (λh=>by cases h) (by omega) (by omega) (Nat.le_refl _) V rfl rfl ?_)|(refine ey (e:=29) (e':=29) (sz:=8) (bytes:=120) (b:=b) (o:=0) (n:=j) (cap:=cap) (rows:=rows.take j) (ys:=rows.drop (j+1)) (cs:=rows.flatten++pad) (z:=zU) (by kernel_rfl) (by kernel_rfl) (by kernel_rfl) (by kernel_rfl) rfl (by decide) (by decide) rfl (if_pos rfl) (RowsAt.head F (by omega)) (by rw[Y];omega) (.inr ⟨b,O,_,_,29,_,rfl,if_pos rfl,RowsAt.tail' F hj Z⟩) (by rw[T];omega) (λ_=>?_) (λhc=>by omega))|(refine aS (e:=29) (sz:=8) (l:=rows.length-1) (h:=rows.length) (m:=cap) ((rows.length-1)*8) 1 (cap-(rows.length-1)) (by kernel_rfl) (by kernel_rfl) rfl ⟨_,rfl⟩ ⟨_,rfl⟩ rfl (λh=>by cases h) (by omega) (by omega) (Nat.le_refl _) (by rw[if_neg (by omega)];omega) (by omega) rfl ?_)|(refine jS (elem:=29) (sz:=8) (z:=zU) (by kernel_rfl) (by kernel_rfl) rfl (by decide) rfl (if_pos rfl) (by rw[length_append,length_append,length_take,length_drop,I,ap _ M,N];omega) (λh=>by cases h) (λ_=>?_))))
 all_goals
  refine RET.mk' (SubN.refl _) (aO.mk N.symm (by omega) h2 M ?_)
  rw[length_append,ap _ M,N]
  simp only[length_cons,length_drop,I]
  omega
theorem x233 {σ:Store} {E F V T c2 k1:Nat} {cs:List AV} {J:TypeId} {rows:List (List AV)} (I:E≠F) (M:σ.get E=some (.tok 29 k1)) (N:σ.get F=some (.cells J cs)) (O:cs≠[]):
  XSpec G Tryz.prog (.func (.func 331) #[] #[]) [.own (some E) 29 8 rows,.sc (.slice (some ⟨F,V,none⟩) T c2)] σ (λr σ'=>r= .bool false/\σ'=σ):=
 XOVER (tS:=27) (tR:=4) (e:=29) (sz:=8) (λw vs=>run_callFunc_extern (e:=Extern.SlicesOverlaps.overlaps #[27,27] #[4]) Tryz.func331 (by kernel_rfl) (by kernel_rfl) (by kernel_rfl) (by kernel_rfl) vs w) (by kernel_rfl) (by kernel_rfl) I M N O
def d8 (rows:List (List AV)) (j:Nat) (x:List AV):List (List AV):=rows.take j++x::rows.drop j
theorem putAt_len (rows:List (List AV)) (j:Nat) (x:List AV):(d8 rows j x).length=rows.length+1:=by
 unfold d8
 rw[length_append,length_cons,length_take,length_drop];omega
theorem putAt_row {sz:Nat} {rows:List (List AV)} {j:Nat} {x:List AV} (h:∀r∈rows,r.length=sz) (F:x.length=sz):∀r∈d8 rows j x,r.length=sz:=by
 intro r E
 rcases mem_append.1 E with E|E
 ·exact h r (mem_of_mem_take E)
 ·rcases mem_cons.1 E with rfl|E
  ·exact F
  ·exact h r (mem_of_mem_drop E)
set_option maxHeartbeats 2000000 in
theorem f278 (rows:List (List AV)) (v:AV) (κ:Store) (ho:aO 29 8 rows v κ) (j:Nat) (hj:j<=rows.length) (hl:rows.length<1000000) (O:Nat) (x:List AV) (hx:x.length=8):
  aj G Tryz.prog 278 [v,.int .i64 j,.own (some O) 29 8 [x]] (κ++[(O,.tok 29 8)]) (λr σ'=>∃bw,aO 29 8 (d8 rows j x) r bw/\σ'=bw++[(O,.tok 29 8)]):=by
 by_cases bk:j=rows.length
 ·subst bk
  have hp:d8 rows rows.length x=rows++[x]:=by unfold d8;rw[take_length,drop_length]
  rw[hp]
  refine aj.wn c278 λT=>?_
  unfold s278 r278
  obtain⟨J,cap,rfl,h⟩:=ho
  rcases h with⟨rfl,rfl,rfl⟩|⟨b,pad,rfl,rfl,h1,h2,M,h4⟩
  ·have cp:iS (.slice J 0 0):=by
    cases J with
    |none=>exact .inl rfl
    |some a=>exact .inr ⟨a,rfl⟩
   (repeat' (first|simp only[EVz,seval,↓reduceIte,EV6,EV7]|(refine ou (e:=29) (sz:=8) (by kernel_rfl) (by kernel_rfl) rfl ⟨_,rfl⟩ rfl rfl (λh=>by cases h) ?_)|(refine aY (e:=29) (e':=29) (sz:=8) (bytes:=120) (rows:=[]) (ys:=[x]) (g:=none) (xv:=.sc (.slice J 0 0)) (by kernel_rfl) (by kernel_rfl) (by kernel_rfl) (by kernel_rfl) (by decide) (by decide) rfl (.inl ⟨rfl,rfl,.inr ⟨_,rfl,cp⟩⟩) ⟨rfl,rfl⟩ (by simp) (λ_ h=>by cases h) (λb' I pad hb g1 g2 g3 g4=>?_))))
   exact RET.mk' (SubN.refl _) ⟨_,aO.mk rfl g1 g2 g3 g4,rfl⟩
  ·have ac:¬O=b:=by
    simp[Store.keys]at T
    exact λe=>T e.symm
   have cw:Store.erase [(b,AObj.cells 29 (rows.flatten++pad)),(O,.tok 29 8)] (some b)=[(O,.tok 29 8)]:=by simp[Store.erase,ac]
   (repeat' (first|simp only[EVz,seval,↓reduceIte,EV6,EV7,cw]|(refine aS (e:=29) (sz:=8) (l:=rows.length) (h:=rows.length) (m:=cap) _ _ _ (by kernel_rfl) (by kernel_rfl) rfl ⟨_,rfl⟩ rfl rfl (λh=>by cases h) (by omega) h1 (Nat.le_refl _) rfl rfl rfl ?_)|(refine aY (e:=29) (e':=29) (sz:=8) (bytes:=120) (rows:=rows) (ys:=[x]) (g:=some b) (xv:=.sc (.slice (some ⟨b,0,none⟩) rows.length cap)) (by kernel_rfl) (by kernel_rfl) (by kernel_rfl) (by kernel_rfl) (by decide) (by decide) rfl (.inr ⟨b,cap,pad,rfl,rfl,if_pos rfl,M,h4,h1,h2⟩) ⟨rfl,rfl⟩ (by simp;omega) (λ_ h=>by cases h) (λb' I E hb g1 g2 g3 g4=>?_))))
   exact RET.mk' (SubN.refl _) ⟨_,aO.mk (by simp) g1 g2 g3 g4,rfl⟩
 ·obtain⟨J,cap,rfl,h⟩:=ho
  rcases h with⟨rfl,rfl,rfl⟩|⟨b,pad,rfl,rfl,h1,h2,M,h4⟩
  ·simp at hj
   exact absurd hj bk
  refine aj.wn c278 λT=>?_
  unfold s278 r278
  have ac:¬O=b:=by
   simp[Store.keys]at T
   exact λe=>T e.symm
  have bb:¬b=O:=λe=>ac e.symm
  have e0:decide ((j:Int)=(rows.length:Int))=false:=decide_eq_false (by omega)
  have w1:IntKind.i64.wrap ((rows.length:Int)+1)=((rows.length+1:Nat):Int):=by rw[av (by omega) (by omega)];omega
  have w2:IntKind.i64.wrap (((rows.length+1:Nat):Int)-(j:Int))=((rows.length+1-j:Nat):Int):=by rw[av (by omega) (by omega)];omega
  have w3:IntKind.i64.wrap ((j:Int)+1)=((j+1:Nat):Int):=by rw[av (by omega) (by omega)];omega
  have bm:j<rows.length:=by omega
  have F:(rows.take j).flatten.length=j*8:=by rw[ap _ (λr Z=>M r (mem_of_mem_take Z)),length_take,Nat.min_eq_left (by omega)]
  have N:(rows.drop j).flatten.length=(rows.length-j)*8:=by rw[ap _ (λr Z=>M r (mem_of_mem_drop Z)),length_drop]
  have bn:=putAt_len rows j x
  have bo:=putAt_row (j:=j) M hx
  have ad:∀D,(d8 rows j x).flatten++D=(rows.take j).flatten++(x++((rows.drop j).flatten++D)):=λD=>by unfold d8;simp[append_assoc]
  by_cases hc:rows.length+1<=cap
  ·have e1:decide ((cap:Int)<((rows.length+1:Nat):Int))=false:=decide_eq_false (by omega)
   have dl:8<=pad.length:=by
    have:=ap rows M
    rw[length_append]at h4
    omega
   have bp:rows[j].length=8:=M _ (getElem_mem bm)
   have cl:rows.flatten++pad=(rows.take j).flatten++((rows.drop j++[pad.take 8]).flatten++pad.drop 8):=by
    have h5:rows.flatten=(rows.take j).flatten++(rows.drop j).flatten:=by rw[←flatten_append,take_append_drop]
    rw[h5]
    simp[append_assoc]
   have ch:RowsAt 8 (rows.flatten++pad) (j*8) (rows.length+1-j) (rows.drop j++[pad.take 8]):=by
    rw[cl]
    refine RowsAt.mid F.symm (by simp;omega) (λr Z=>?_)
    rcases mem_append.1 Z with Z|Z
    ·exact M r (mem_of_mem_drop Z)
    ·simp only[mem_singleton]at Z;subst Z;rw[length_take];omega
   have dc:(rows.drop j++[pad.take 8]).take (rows.length-j)=rows.drop j:=by
    rw[take_append_of_le_length (by rw[length_drop];omega),take_of_length_le (by rw[length_drop];omega)]
   have V:splice (rows.flatten++pad) ((j+1)*8) ((rows.drop j++[pad.take 8]).take (rows.length-j)).flatten=(rows.take j).flatten++(rows[j]++((rows.drop j).flatten++pad.drop 8)):=by
    have be:=ap rows M
    have cm:rows.flatten.drop ((j+1)*8+(rows.drop j).flatten.length)=[]:=drop_eq_nil_of_le (by rw[N,be];omega)
    rw[dc,aR _ _ _ (by rw[N,h4];omega),lh M (by omega),drop_append,cm,nil_append,N,be,show(j+1)*8+(rows.length-j)*8-rows.length*8=8 by omega,take_succ_eq_append_getElem bm,flatten_append]
    simp[append_assoc]
   have X:splice ((rows.take j).flatten++(rows[j]++((rows.drop j).flatten++pad.drop 8))) (j*8) ([x].take 1).flatten=(d8 rows j x).flatten++pad.drop 8:=by
    rw[ad]
    simpa using ej (A:=(rows.take j).flatten) (B:=rows[j]) (B':=x) (C:=(rows.drop j).flatten++pad.drop 8) F.symm (by rw[hx,bp])
   have bd:rows.flatten++pad≠[]:=λh=>by
    have:=congrArg List.length h
    rw[h4]at this
    simp at this
    omega
   have al:min (rows.drop j++[pad.take 8]).length (rows.length-j)=rows.length-j:=by rw[length_append,length_drop];exact Nat.min_eq_right (Nat.le_add_right _ _)
   have an:min [x].length (rows.length+1-j)=1:=Nat.min_eq_left (by simp;omega)
   have d2:j*8+1*8<=((rows.take j).flatten++(rows[j]++((rows.drop j).flatten++pad.drop 8))).length:=by rw[length_append,length_append,F,bp];omega
   have d0:Store.get [(b,AObj.cells 29 (rows.flatten++pad)),(O,.tok 29 8)] O=some (.tok 29 8):=by simp[Store.get,bb]
   have d1:Store.get [(b,AObj.cells 29 (rows.flatten++pad)),(O,.tok 29 8)] b=some (.cells 29 (rows.flatten++pad)):=by simp[Store.get]
   generalize e2:rows[j]=rj at*
   (repeat' (first|simp only[EVz,seval,↓reduceIte,EV6,EV7,e0,w1,e1,w3]|(with_reducible first|refine ae ?_ ?_|refine af ?_)|(refine aS (e:=29) (sz:=8) (l:=j) (h:=rows.length) (m:=cap) _ _ _ (by kernel_rfl) (by kernel_rfl) rfl ⟨_,rfl⟩ rfl rfl (λh=>by cases h) (by omega) h1 (Nat.le_refl _) rfl rfl rfl ?_)|(refine nc (e:=29) rfl (by kernel_rfl) ?_)|(refine aS (e:=29) (sz:=8) (l:=0) (h:=rows.length+1) (m:=cap) 0 (rows.length+1) cap (by kernel_rfl) (by kernel_rfl) rfl rfl ⟨_,rfl⟩ rfl (λh=>by cases h) (by omega) hc (Nat.le_refl _) (by split<;>rfl) rfl rfl ?_)|(refine aS (e:=29) (sz:=8) (l:=j+1) (h:=rows.length+1) (m:=cap) ((j+1)*8) (rows.length-j) (cap-(j+1)) (by kernel_rfl) (by kernel_rfl) rfl ⟨_,rfl⟩ rfl rfl (λh=>by cases h) (by omega) hc (Nat.le_refl _) (by rw[if_neg (by omega)];omega) (by omega) rfl ?_)|(refine CALL_x _ [] (x233 G ac d0 d1 bd) (aA.rfl' _) (by rw[append_nil];exact SubN.refl _) (λr' ds h'=>?_))|(obtain⟨rfl,rfl⟩:=h')|(refine aS (e:=29) (sz:=8) (l:=j) (h:=rows.length+1) (m:=cap) (j*8) (rows.length+1-j) (cap-j) (by kernel_rfl) (by kernel_rfl) rfl ⟨_,rfl⟩ rfl rfl (λh=>by cases h) (by omega) hc (Nat.le_refl _) (by rw[if_neg (by omega)];omega) (by omega) rfl ?_)|(refine gi (elem:=29) (sz:=8) (b:=b) (ys:=rows.drop j++[pad.take 8]) (rows.length-j) _ (by kernel_rfl) (by kernel_rfl) rfl (if_pos rfl) (.inr ⟨b,j*8,_,_,29,_,rfl,if_pos rfl,ch⟩) al (by omega) (by rw[h4];omega) V ?_)|(refine gi (elem:=29) (sz:=8) (b:=b) (ys:=[x]) 1 _ (by kernel_rfl) (by kernel_rfl) rfl (if_pos rfl) (.inl ⟨rfl,rfl⟩) an (by omega) d2 X ?_)))
   all_goals
    refine RET.mk' (SubN.refl _) ⟨_,aO.mk bn.symm (by omega) h2 bo ?_,rfl⟩
    rw[ad,length_append,length_append,length_append,F,N,hx,length_drop]
    rw[length_append,ap rows M]at h4
    omega
  ·have e1:decide ((cap:Int)<((rows.length+1:Nat):Int))=true:=decide_eq_true (by omega)
   have bh:j+(rows.length+1-j)=rows.length+1:=by omega
   have d3:rows.length+1-j=(rows.length-j)+1:=by omega
   have al:min [x].length (rows.length+1-j)=1:=Nat.min_eq_left (by simp;omega)
   have an:min (rows.drop j).length (rows.length-j)=rows.length-j:=by rw[length_drop];exact Nat.min_self _
   obtain⟨Y,dd,aw⟩:∃Y,cu Tryz.prog 29=some Y/\Y.length=8:=⟨zU,by kernel_rfl,rfl⟩
   have ag:∀k,(List.replicate k Y).flatten.length=k*8:=λk=>by rw[bW,aw]
   have V:∀E:List AV,splice ((rows.take j).flatten++((List.replicate (rows.length+1-j) Y).flatten++E)) (j*8) ([x].take 1).flatten=(rows.take j).flatten++(x++((List.replicate (rows.length-j) Y).flatten++E)):=λE=>by
    rw[d3,replicate_succ,flatten_cons,append_assoc]
    simpa using ej (A:=(rows.take j).flatten) (B:=Y) (B':=x) (C:=(List.replicate (rows.length-j) Y).flatten++E) F.symm (by rw[hx,aw])
   have d4:(rows.drop j).take (rows.length-j)=rows.drop j:=take_of_length_le (by rw[length_drop];omega)
   have X:∀E:List AV,splice ((rows.take j).flatten++(x++((List.replicate (rows.length-j) Y).flatten++E))) ((j+1)*8) ((rows.drop j).take (rows.length-j)).flatten=(d8 rows j x).flatten++E:=λE=>by
    rw[d4,ad]
    simpa[append_assoc]using ej (o:=(j+1)*8) (A:=(rows.take j).flatten++x) (B:=(List.replicate (rows.length-j) Y).flatten) (B':=(rows.drop j).flatten) (C:=E) (by rw[length_append,F,hx];omega) (by rw[N,ag])
   (repeat' (first|simp only[EVz,seval,↓reduceIte,EV6,EV7,e0,w1,e1,w2,w3,bh]|(with_reducible first|refine ae ?_ ?_|refine af ?_)|(refine aS (e:=29) (sz:=8) (l:=j) (h:=rows.length) (m:=cap) (j*8) (rows.length-j) (cap-j) (by kernel_rfl) (by kernel_rfl) rfl ⟨_,rfl⟩ rfl rfl (λh=>by cases h) (by omega) (by omega) (Nat.le_refl _) (by rw[if_neg (by omega)];omega) rfl rfl ?_)|(refine nc (e:=29) rfl (by kernel_rfl) ?_)|(refine aS (e:=29) (sz:=8) (l:=0) (h:=j) (m:=cap) 0 j cap (by kernel_rfl) (by kernel_rfl) rfl rfl ⟨_,rfl⟩ rfl (λh=>by cases h) (by omega) (by omega) (Nat.le_refl _) (by split<;>rfl) rfl rfl ?_)|(refine jt (e:=29) (sz:=8) (bytes:=120) (rows:=rows.take j) (k:=rows.length+1-j) (z:=Y) (kn:=.i64) (by kernel_rfl) (by kernel_rfl) (by kernel_rfl) dd aw (by decide) (by decide) rfl (if_pos rfl) (RowsAt.head M (by omega)) rfl (by omega) (by omega) (by rw[bh];omega) (λb' I E ah g1 g2 g3=>?_))|(simp only[Store.keys,map_cons,map_nil,mem_cons,not_mem_nil,or_false,not_or]at ah)|(refine aS (e:=29) (sz:=8) (l:=j) (h:=rows.length+1) (m:=I) (j*8) (rows.length+1-j) (I-j) (by kernel_rfl) (by kernel_rfl) rfl ⟨_,rfl⟩ rfl rfl (λh=>by cases h) (by omega) (by omega) (Nat.le_refl _) (by rw[if_neg (by omega)];omega) rfl rfl ?_)|(refine gi (elem:=29) (sz:=8) (b:=b') (ys:=[x]) 1 _ (by kernel_rfl) (by kernel_rfl) rfl (if_pos rfl) (.inl ⟨rfl,rfl⟩) al (by omega) (by rw[length_append,length_append,F,ag];omega) (V E) ?_)|(refine aS (e:=29) (sz:=8) (l:=j+1) (h:=rows.length+1) (m:=I) ((j+1)*8) (rows.length-j) (I-(j+1)) (by kernel_rfl) (by kernel_rfl) rfl ⟨_,rfl⟩ rfl rfl (λh=>by cases h) (by omega) (by omega) (Nat.le_refl _) (by rw[if_neg (by omega)];omega) (by omega) rfl ?_)|(refine gi (elem:=29) (sz:=8) (b:=b') (ys:=rows.drop j) (rows.length-j) _ (by kernel_rfl) (by kernel_rfl) rfl (if_pos rfl) (.inr ⟨b,j*8,_,_,29,_,rfl,(if_neg ah.1).trans (if_pos rfl),RowsAt.tail M (by omega)⟩) an (by omega) (by rw[length_append,length_append,length_append,F,hx,ag];omega) (X E) ?_)))
   all_goals
    refine RET.mk' (σ':=[(b',AObj.cells 29 ((d8 rows j x).flatten++E))]++[(O,.tok 29 8)]) ⟨λq hq=>?_,λhn=>?_⟩ ⟨_,aO.mk bn.symm (by omega) g2 bo ?_,rfl⟩
    ·simp only[cons_append,nil_append,mem_cons,not_mem_nil,or_false]at hq ⊢
     rcases hq with hq|hq
     ·exact .inl hq
     ·exact .inr (.inr hq)
    ·simp[Store.keys]
     exact ah.2
    ·rw[ad,length_append,length_append,length_append,F,N,hx]
     rw[length_append,length_append,F,ag]at g3
     omega
end
section
variable (G:Glob)
theorem f340 (f:Value) (N:Nat) (St:List U->Store->Prop) (hN:N<1000000):
  ∀(u:U),u.Tame->(∀x∈u.flat,∀pre σ,St pre σ->pre.length<N->cn G Tryz.prog f [.agg x.cs] σ (λr σ'=>St (pre++[x]) σ'))->
   ∀pre σ,St pre σ->pre.length+u.flat.length<=N->aj G Tryz.prog 340 [.agg u.cs,.sc f] σ (λr σ'=>St (pre++u.flat) σ'):=by
 refine U.ind λu ih ht hf pre σ Y ah=>?_
 have ag:=ht.kids
 have M:=u.flat_eq
 have ad:u.flat.length=1+(U.flats u.kids).length:=by rw[M,length_cons];omega
 refine aj.w c340 ?_
 unfold s340 r340
 (repeat' (simp only[EVz,seval,↓reduceIte,EV6,EV7]))
 refine aP σ [] (hf u u.flat_self pre σ Y (by omega)) (aA.rfl' _) (by simpa using SubN.refl _) ?_
 rintro r σ' I
 rw[append_nil]
 (repeat' (first|simp only[EVz,seval,↓reduceIte,EV6,EV7,E.yes,E.le0,E.lt',E.get,E.row,hw]|simp only[EVz,seval,↓reduceIte,EV6,EV7,hn]|simp only[EVz,seval,↓reduceIte,EV6,EV7]|(with_reducible intro V J;(try(have O:=J;simp only[EVK]at O;(have al:=O))))|(refine ax (ι:=Store×List U) u.kids (λi r c=>St c.2 c.1/\pre++u.flat=c.2++U.flats r/\c.2.length+(U.flats r).length<=N) (λi c=>[(1,.sc f),(10,.lst 8 (u.kids.map U.cs)),(11,.int .i64 u.kids.length),(12,.int .i64 i)]) (λi c=>c.1) (σ',pre++[u]) ⟨I,by rw[M];simp,by simp;omega⟩ (Weak.rfl' _ _) (by omega) (λi x r c F E hw=>?_) (λc F hn=>?_))))
 ·obtain⟨Z,T,o3⟩:=F
  rw[aG]at T o3
  rw[length_append]at o3
  refine aP c.1 [(V,.cells 29 x.cs)] (ih x E.mem (ht.kid E.mem) (λy hy=>hf y (lk E.mem hy)) c.2 c.1 Z (by omega)).v (aA.rfl' _) SubN.comm1 ?_
  rintro r' ac X
  (repeat' (simp only[EVz,seval,↓reduceIte,EV6,EV7,hw]))
  exact am E (ac,c.2++x.flat) ⟨X,by rw[T,append_assoc],by simp;omega⟩ (Weak.sub SubN.left)
 ·obtain⟨Z,T,o3⟩:=F
  exact RET.mk (SubN.refl _) (by rw[T,bl,append_nil];exact Z)
def St1 (E F:Nat) (p:List Stp) (s:Stp) (pre:List U) (σ:Store):Prop:=∃v κ,(aO 29 8 ((pre.filter λx=>aK x s).map U.cs) v κ\/(pre.filter λx=>aK x s)=[]/\v= .nil/\κ=[])/\σ=[(E,.cells 56 [.lst 2 (p.map Stp.cs)]),(F,.cells 27 [v])]++κ
theorem f341 (b3 b5:Nat) (s:Stp) (rs:List Stp) (x:U) (pre:List U) (bw:pre.length<1000000) (σ:Store) (hS:St1 b3 b5 (s::rs) s pre σ):
  aj G Tryz.prog 341 [.agg x.cs,.sc (.pointer (some ⟨b3,0,none⟩)),.sc (.pointer (some ⟨b5,0,none⟩))] σ (λr σ'=>St1 b3 b5 (s::rs) s (pre++[x]) σ'):=by
 obtain⟨v,κ,ho,rfl⟩:=hS
 have hC:=f342 G x s
 have bb:(pre.filter λx=>aK x s).length<=pre.length:=length_filter_le _ _
 obtain⟨L,hL⟩:∃L,pre.filter (λx=>aK x s)=L:=⟨_,rfl⟩
 rw[hL]at ho bb
 refine aj.wn c341 λV=>?_
 unfold s341 r341
 have O:(pre++[x]).filter (λx=>aK x s)=if aK x s=true then L++[x]else L:=by
  rw[filter_append,hL]
  cases hq:aK x s<;>simp[hq]
 rcases ho with⟨ag,cap,rfl,⟨h0,rfl,rfl⟩|⟨b,pad,rfl,rfl,h1,h2,h3,h4⟩⟩|⟨h0,rfl,rfl⟩
 ·have bn:L=[]:=by simpa using h0
  subst bn
  have F:¬b5=b3:=by simp[Store.keys]at V;exact λe=>V e.symm
  have I:¬b3=b5:=λe=>F e.symm
  cases hc:aK x s with
  |false=>
   rw[hc]at hC O
   (repeat' (first|(with_reducible first|refine AI (by omega) ?_|refine aa hC ?_)|simp only[EVz,seval,↓reduceIte,EV6,EV7,F,I,map_cons,getD_cons_zero]))
   all_goals exact RET.mk' (SubN.refl _) ⟨_,[],.inl (by rw[O];exact⟨ag,0,rfl,.inl ⟨rfl,rfl,rfl⟩⟩),rfl⟩
  |true=>
   rw[hc]at hC O
   have bp:iS (.slice ag 0 0):=by
    cases ag with
    |none=>exact .inl rfl
    |some a=>exact .inr ⟨a,rfl⟩
   obtain⟨T,ad⟩:∃T:List AV,T=[.int .i64 0,.int .i64 0,.int .i64 0,.int .i64 0,.str [],.nil,.nil,.nil]:=⟨_,rfl⟩
   have J:T.length=8:=by rw[ad];rfl
   have al:∀E:List AV,([T].flatten++E).drop 8=E:=λE=>by rw[←J];simp
   have bd:∀E:List AV,8<=([T].flatten++E).length:=λE=>by rw[length_append];simp[J]
   (repeat' (first|(with_reducible first|refine AI (by omega) ?_|refine aa hC ?_)|simp only[EVz,seval,↓reduceIte,EV6,EV7,F,I,map_cons,getD_cons_zero,dm,al,M]|simp only[EVz,seval,↓reduceIte,EV6,EV7,F,I,map_cons,getD_cons_zero,dm,al]|(with_reducible intro be Z;(try(have ac:=Z;simp only[EVK]at ac;(have M:=ac))))|(with_reducible refine ae ?_ ?_)|(refine⟨[T],rfl,(by simp[J]),(by simp[ad]),?_⟩)|(refine aY (e:=29) (e':=29) (sz:=8) (bytes:=120) (rows:=[]) (ys:=[T]) (g:=none) (xv:=.sc (.slice ag 0 0)) (by kernel_rfl) (by kernel_rfl) (by kernel_rfl) (by kernel_rfl) (by decide) (by decide) rfl (.inl ⟨rfl,rfl,.inr ⟨_,rfl,bp⟩⟩) ⟨rfl,rfl⟩ (by simp) (λ_ h=>by cases h) (λb' N E hb g1 g2 g3 g4=>?_))|((simp only[EVK,dm]at hb;have M:=AI hb M))|(refine⟨bd _,_,_,Weak.rfl' _ _,?_⟩)))
   all_goals
    refine RET.mk' (σ':=[(b3,AObj.cells 56 [.lst 2 ((s::rs).map Stp.cs)]),(b5,AObj.cells 27 [.sc (.slice (some ⟨b',0,none⟩) 1 N)])]++[(b',AObj.cells 29 (x.cs++E))]) (SubN.trans (SubN.perm (perm_append_comm (l₁:=[_,_]) (l₂:=[_]))) (SubN.cons (SubN.tail (SubN.refl _) _) _)) ⟨_,_,.inl ?_,rfl⟩
    have:=aO.mk (e:=29) (sz:=8) (b:=b') (rows:=[x.cs]) (pad:=E) (n:=1) (cap:=N) rfl g1 g2 (by simp[U.cs_len]) (by rw[←g4];simp[U.cs_len,J])
    rw[O]
    simpa using this
 ·have F:¬b5=b3:=by simp[Store.keys]at V;exact λe=>V.1.1 e.symm
  have I:¬b3=b5:=λe=>F e.symm
  have X:¬b3=b:=by simp[Store.keys]at V;exact V.1.2
  have Y:¬b5=b:=by simp[Store.keys]at V;exact V.2
  have an:¬b=b3:=λe=>X e.symm
  have aw:¬b=b5:=λe=>Y e.symm
  rw[length_map]at h1
  cases hc:aK x s with
  |false=>
   rw[hc]at hC O
   (repeat' (first|(with_reducible first|refine AI (by omega) ?_|refine aa hC ?_)|simp only[EVz,seval,↓reduceIte,EV6,EV7,F,I,X,Y,an,aw,map_cons,getD_cons_zero,length_map]))
   all_goals exact RET.mk' (SubN.refl _) ⟨_,[(b,_)],.inl (by rw[O];exact aO.mk (by simp) (by rw[length_map];exact h1) h2 h3 h4),rfl⟩
  |true=>
   rw[hc]at hC O
   obtain⟨T,ad⟩:∃T:List AV,T=[.int .i64 0,.int .i64 0,.int .i64 0,.int .i64 0,.str [],.nil,.nil,.nil]:=⟨_,rfl⟩
   have J:T.length=8:=by rw[ad];rfl
   obtain⟨R0,ah⟩:∃R0,L.map U.cs=R0:=⟨_,rfl⟩
   have bo:R0.length=L.length:=by rw[←ah,length_map]
   rw[ah]at h3 h4
   have bb:=ap R0 h3
   have bm:∀E:List AV,splice ((R0++[T]).flatten++E) (0+R0.length*8) x.cs=(R0++[x.cs]).flatten++E:=λE=>by
    rw[flatten_append,flatten_append,append_assoc,append_assoc]
    simpa using ej (A:=R0.flatten) (B:=T) (B':=x.cs) (C:=E) (o:=R0.length*8) (by rw[bb]) (by rw[U.cs_len,J])
   have bd:∀E:List AV,0+R0.length*8+8<=((R0++[T]).flatten++E).length:=λE=>by rw[length_append,flatten_append,length_append,bb];simp[J]
   have bh:(R0++[T]).length=R0.length+1:=by rw[length_append];rfl
   (repeat' (first|(with_reducible first|refine AI (by omega) ?_|refine aa hC ?_)|simp only[EVz,seval,↓reduceIte,EV6,EV7,F,I,X,Y,an,aw,map_cons,getD_cons_zero,length_map,fh,lB,bm,bh,ah,M]|simp only[EVz,seval,↓reduceIte,EV6,EV7,F,I,X,Y,an,aw,map_cons,getD_cons_zero,length_map,fh,lB,bm,bh,ah]|(with_reducible intro be Z;(try(have ac:=Z;simp only[EVK]at ac;(have M:=ac))))|(with_reducible first|refine ae ?_ ?_|refine af ?_)|(refine⟨[T],rfl,(by simp[J]),(by simp[ad]),?_⟩)|(refine aY (e:=29) (e':=29) (sz:=8) (bytes:=120) (rows:=R0) (ys:=[T]) (g:=some b) (xv:=.sc (.slice (some ⟨b,0,none⟩) R0.length cap)) (by kernel_rfl) (by kernel_rfl) (by kernel_rfl) (by kernel_rfl) (by decide) (by decide) rfl (.inr ⟨b,cap,pad,rfl,rfl,(by simp[Store.get,M,X,Y]),h3,h4,by omega,h2⟩) ⟨rfl,rfl⟩ (by rw[bo];simp;omega) (λ_ h=>by cases h) (λb' N E hb g1 g2 g3 g4=>?_))|((simp[Store.keys,Store.erase,M,X,Y]at hb;have M:=AI hb M))))
   all_goals
    refine RET.mk' (σ':=[(b3,AObj.cells 56 [.lst 2 ((s::rs).map Stp.cs)]),(b5,AObj.cells 27 [.sc (.slice (some ⟨b',0,none⟩) (R0.length+1) N)])]++[(b',AObj.cells 29 ((R0++[x.cs]).flatten++E))]) (SubN.trans (SubN.perm (perm_append_comm (l₁:=[_,_]) (l₂:=[_]))) (SubN.cons (SubN.tail (SubN.refl _) _) _)) ⟨_,_,.inl ?_,rfl⟩
    have bk:∀r∈R0++[x.cs],r.length=8:=λr hr=>by
     rcases mem_append.1 hr with hr|hr
     ·exact h3 r hr
     ·simp only[mem_singleton]at hr;subst hr;exact U.cs_len x
    have:=aO.mk (e:=29) (sz:=8) (b:=b') (rows:=R0++[x.cs]) (pad:=E) (n:=R0.length+1) (cap:=N) (by simp) (by simpa using g1) g2 bk (by rw[←g4];simp[U.cs_len,J])
    rw[O]
    simpa[ah]using this
 ·subst h0
  have F:¬b5=b3:=by simp[Store.keys]at V;exact λe=>V e.symm
  have I:¬b3=b5:=λe=>F e.symm
  cases hc:aK x s with
  |false=>
   rw[hc]at hC O
   (repeat' (first|(with_reducible first|refine AI (by omega) ?_|refine aa hC ?_)|simp only[EVz,seval,↓reduceIte,EV6,EV7,F,I,map_cons,getD_cons_zero]))
   all_goals exact RET.mk' (SubN.refl _) ⟨_,[],.inr ⟨by rw[O];rfl,rfl,rfl⟩,rfl⟩
  |true=>
   rw[hc]at hC O
   obtain⟨T,ad⟩:∃T:List AV,T=[.int .i64 0,.int .i64 0,.int .i64 0,.int .i64 0,.str [],.nil,.nil,.nil]:=⟨_,rfl⟩
   have J:T.length=8:=by rw[ad];rfl
   have al:∀E:List AV,([T].flatten++E).drop 8=E:=λE=>by rw[←J];simp
   have bd:∀E:List AV,8<=([T].flatten++E).length:=λE=>by rw[length_append];simp[J]
   (repeat' (first|(with_reducible first|refine AI (by omega) ?_|refine aa hC ?_)|simp only[EVz,seval,↓reduceIte,EV6,EV7,F,I,map_cons,getD_cons_zero,dm,al,M]|simp only[EVz,seval,↓reduceIte,EV6,EV7,F,I,map_cons,getD_cons_zero,dm,al]|(with_reducible intro be Z;(try(have ac:=Z;simp only[EVK]at ac;(have M:=ac))))|(with_reducible refine ae ?_ ?_)|(refine⟨[T],rfl,(by simp[J]),(by simp[ad]),?_⟩)|(refine aY (e:=29) (e':=29) (sz:=8) (bytes:=120) (rows:=[]) (ys:=[T]) (g:=none) (xv:=.nil) (by kernel_rfl) (by kernel_rfl) (by kernel_rfl) (by kernel_rfl) (by decide) (by decide) rfl (.inl ⟨rfl,rfl,.inl rfl⟩) ⟨rfl,rfl⟩ (by simp) (λ_ h=>by cases h) (λb' N E hb g1 g2 g3 g4=>?_))|((simp only[EVK,dm]at hb;have M:=AI hb M))|(refine⟨bd _,_,_,Weak.rfl' _ _,?_⟩)))
   all_goals
    refine RET.mk' (σ':=[(b3,AObj.cells 56 [.lst 2 ((s::rs).map Stp.cs)]),(b5,AObj.cells 27 [.sc (.slice (some ⟨b',0,none⟩) 1 N)])]++[(b',AObj.cells 29 (x.cs++E))]) (SubN.trans (SubN.perm (perm_append_comm (l₁:=[_,_]) (l₂:=[_]))) (SubN.cons (SubN.tail (SubN.refl _) _) _)) ⟨_,_,.inl ?_,rfl⟩
    have:=aO.mk (e:=29) (sz:=8) (b:=b') (rows:=[x.cs]) (pad:=E) (n:=1) (cap:=N) rfl g1 g2 (by simp[U.cs_len]) (by rw[←g4];simp[U.cs_len,J])
    rw[O]
    simpa using this
end
end Go.Av
