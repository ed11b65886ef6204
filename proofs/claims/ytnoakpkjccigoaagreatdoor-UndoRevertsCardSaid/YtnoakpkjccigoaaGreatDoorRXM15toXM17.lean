/-
  ENACT, M15: rows cloned into cells of the callee's own; rows cut out and put in.
-/
import Derived.Test.YtnoakpkjccigoaaGreatDoorRXC4
import Derived.Test.YtnoakpkjccigoaaGreatDoorRXC5
import Derived.Test.YtnoakpkjccigoaaGreatDoorRXC6
import Derived.Test.YtnoakpkjccigoaaGreatDoorRXM1toXL32
import Derived.Test.YtnoakpkjccigoaaGreatDoorRXE10toXL26
import Derived.Test.YtnoakpkjccigoaaGreatDoorRXAv34toXAv35
import Derived.Test.YtnoakpkjccigoaaGreatDoorRXL52toXE16
namespace Go.Av
open Go Go.RowKit Go.Proofs List
set_option linter.unusedSimpArgs false
set_option linter.unusedVariables false
section
variable (G:Glob)
theorem f203 (rows:List (List AV)) (O:∀r∈rows,r.length=8) (X:rows.length<1000000):ag G Tryz.prog 203 [.lst 8 rows] [] (λr σ=>bD 27 8 rows r σ):=by
 refine ag.w c203 ?_
 unfold s203 r203
 simp only[EV1,EV2,EV3,EV4,EV5,Option.map_some,decide_true,decide_false,seval,↓reduceIte,eq_self]
 intro T F
 refine ab (λh=>?_) (λh=>?_)
 ·simp only[EV1,EV2,EV3,EV4,EV5,Option.map_some,decide_true,decide_false,seval,↓reduceIte,eq_self]
  have E:rows=[]:=by
   rcases Classical.em (rows=[])with D|D
   ·exact D
   ·rw[F D]at h;cases h
  subst E
  exact RET.le (y:=.sc (.slice none 0 0)) (Or.inl (Or.inr rfl)) (SubN.refl _) (ed (.inl rfl))
 ·simp only[EV1,EV2,EV3,EV4,EV5,Option.map_some,decide_true,decide_false,seval,↓reduceIte,eq_self]
  refine fV (e:=27) (n:=8) (by kernel_rfl) (by kernel_rfl) (λv I=>?_)
  simp only[EV1,EV2,EV3,EV4,EV5,Option.map_some,decide_true,decide_false,seval,↓reduceIte,eq_self]
  refine bY (e:=27) (e':=27) (sz:=8) (bytes:=120) (rows:=[]) (ys:=rows) (g:=none) (xv:=.sc v) (by kernel_rfl) (by kernel_rfl) (by kernel_rfl) (by kernel_rfl) (by decide) (by decide) rfl (.inl ⟨rfl,rfl,.inr ⟨v,rfl,I⟩⟩) ?_ ?_ ?_ ?_
  ·exact⟨rfl,rfl⟩
  ·simp;omega
  ·intro _ E
   subst E
   simp only[EV1,EV2,EV3,EV4,EV5,Option.map_some,decide_true,decide_false,seval,↓reduceIte,eq_self]
   exact RET.mk' (SubN.refl _) (ed I)
  ·intro b cap pad V D J M N
   simp only[EV1,EV2,EV3,EV4,EV5,Option.map_some,decide_true,decide_false,seval,↓reduceIte,eq_self]
   simp only[nil_append]at*
   exact RET.mk' (SubN.refl _) (bD.mk rfl D J M N)
theorem f247 (rows:List (List AV)) (O:∀r∈rows,r.length=1) (X:rows.length<1000000):ag G Tryz.prog 247 [.lst 1 rows] [] (λr σ=>bD 3 1 rows r σ):=by
 refine ag.w c247 ?_
 unfold s247 r247
 simp only[EV1,EV2,EV3,EV4,EV5,Option.map_some,decide_true,decide_false,seval,↓reduceIte,eq_self]
 intro T F
 refine ab (λh=>?_) (λh=>?_)
 ·simp only[EV1,EV2,EV3,EV4,EV5,Option.map_some,decide_true,decide_false,seval,↓reduceIte,eq_self]
  have E:rows=[]:=by
   rcases Classical.em (rows=[])with D|D
   ·exact D
   ·rw[F D]at h;cases h
  subst E
  exact RET.le (y:=.sc (.slice none 0 0)) (Or.inl (Or.inr rfl)) (SubN.refl _) (ed (.inl rfl))
 ·simp only[EV1,EV2,EV3,EV4,EV5,Option.map_some,decide_true,decide_false,seval,↓reduceIte,eq_self]
  refine fV (e:=3) (n:=1) (by kernel_rfl) (by kernel_rfl) (λv I=>?_)
  simp only[EV1,EV2,EV3,EV4,EV5,Option.map_some,decide_true,decide_false,seval,↓reduceIte,eq_self]
  refine bY (e:=3) (e':=3) (sz:=1) (bytes:=8) (rows:=[]) (ys:=rows) (g:=none) (xv:=.sc v) (by kernel_rfl) (by kernel_rfl) (by kernel_rfl) (by kernel_rfl) (by decide) (by decide) rfl (.inl ⟨rfl,rfl,.inr ⟨v,rfl,I⟩⟩) ?_ ?_ ?_ ?_
  ·exact⟨rfl,rfl⟩
  ·simp;omega
  ·intro _ E
   subst E
   simp only[EV1,EV2,EV3,EV4,EV5,Option.map_some,decide_true,decide_false,seval,↓reduceIte,eq_self]
   exact RET.mk' (SubN.refl _) (ed I)
  ·intro b cap pad V D J M N
   simp only[EV1,EV2,EV3,EV4,EV5,Option.map_some,decide_true,decide_false,seval,↓reduceIte,eq_self]
   simp only[nil_append]at*
   exact RET.mk' (SubN.refl _) (bD.mk rfl D J M N)
set_option maxHeartbeats 1000000 in
theorem f202 (rows:List (List AV)) (v:AV) (κ:Store) (ho:bD 27 8 rows v κ) (j:Nat) (hj:j<rows.length) (hl:rows.length<1000000):
  ag G Tryz.prog 202 [v,.int .i64 j,.int .i64 ((j+1:Nat):Int)] κ (λr σ'=>bD 27 8 (rows.take j++rows.drop (j+1)) r σ'):=by
 obtain⟨ah,cap,rfl,h⟩:=ho
 rcases h with⟨rfl,rfl,rfl⟩|⟨b,pad,rfl,rfl,h1,h2,F,Y⟩
 ·simp at hj
 refine ag.w c202 ?_
 unfold s202 r202
 have e0:decide ((j:Int)=((j+1:Nat):Int))=false:=decide_eq_false (by omega)
 obtain⟨O,V⟩:∃O,(if cap=j+1 then 0 else 0+(j+1)*8)=O:=⟨_,rfl⟩
 have Z:O=(j+1)*8\/j+1=rows.length/\O=0:=by
  subst V
  split
  ·exact .inr ⟨by omega,rfl⟩
  ·exact .inl (by omega)
 have al:=au rows F
 obtain⟨D,hD⟩:∃D,(rows.flatten++pad).drop (0+j*8+(rows.drop (j+1)).flatten.length)=D:=⟨_,rfl⟩
 have J:(rows.drop (j+1)).flatten.length=(rows.length-(j+1))*8:=by rw[au _ (λr E=>F r (mem_of_mem_drop E)),length_drop]
 have ad:(rows.take j).flatten.length=j*8:=by rw[au _ (λr E=>F r (mem_of_mem_take E)),length_take,Nat.min_eq_left (by omega)]
 have I:D.length=cap*8-(rows.length-1)*8:=by rw[←hD,length_drop,Y,J];omega
 have ac:aH (rows.flatten++pad) (0+j*8) (rows.drop (j+1)).flatten=(rows.take j++rows.drop (j+1)).flatten++(D.take 8++D.drop 8):=by
  rw[aY _ _ _ (by rw[J,Y];omega),hD,Nat.zero_add,lT F (by omega),flatten_append,take_append_drop]
 have X:aH ((rows.take j++rows.drop (j+1)).flatten++(D.take 8++D.drop 8)) ((rows.length-1)*8) [[AV.int .i64 0,.int .i64 0,.int .i64 0,.int .i64 0,.str [],.nil,.nil,.nil]].flatten=(rows.take j++rows.drop (j+1)).flatten++(zU++D.drop 8):=by
  refine pE ?_ ?_
  ·rw[flatten_append,length_append,ad,J];omega
  ·rw[length_take,I];simp[zU];omega
 have M:∀r∈rows.take j++rows.drop (j+1),r.length=8:=λr E=>by
  rcases mem_append.1 E with E|E
  ·exact F r (mem_of_mem_take E)
  ·exact F r (mem_of_mem_drop E)
 have N:(rows.take j++rows.drop (j+1)).length=rows.length-1:=by rw[length_append,length_take,length_drop];omega
 have T:j+(rows.drop (j+1)).length=rows.length-1:=by rw[length_drop];omega
 generalize an:rows.take j++rows.drop (j+1)=rows' at*
 (repeat' (first|simp only[EVz,seval,↓reduceIte,EV6,EV7,e0,ac,T,X]|(with_reducible first|refine ae ?_ ?_|refine af ?_)|(refine aW (e:=27) (sz:=8) (l:=j) (h:=j+1) (m:=rows.length) _ _ _ (by kernel_rfl) (by kernel_rfl) rfl ⟨_,rfl⟩ ⟨_,rfl⟩ ⟨_,rfl⟩ (λ_=>rfl) (by omega) (by omega) h1 rfl rfl rfl ?_)|(refine aW (e:=27) (sz:=8) (l:=0) (h:=j) (m:=cap) 0 j cap (by kernel_rfl) (by kernel_rfl) rfl rfl ⟨_,rfl⟩ rfl (λh=>by cases h) (by omega) (by omega) (Nat.le_refl _) (by split<;>rfl) rfl rfl ?_)|(refine aW (e:=27) (sz:=8) (l:=j+1) (h:=rows.length) (m:=cap) O (rows.length-(j+1)) (cap-(j+1)) (by kernel_rfl) (by kernel_rfl) rfl ⟨_,rfl⟩ rfl rfl (λh=>by cases h) (by omega) (by omega) (Nat.le_refl _) V rfl rfl ?_)|(refine eL (e:=27) (e':=27) (sz:=8) (bytes:=120) (b:=b) (o:=0) (n:=j) (cap:=cap) (rows:=rows.take j) (ys:=rows.drop (j+1)) (cs:=rows.flatten++pad) (z:=zU) (by kernel_rfl) (by kernel_rfl) (by kernel_rfl) (by kernel_rfl) rfl (by decide) (by decide) rfl (if_pos rfl) (RowsAt.head F (by omega)) (by rw[Y];omega) (.inr ⟨b,O,_,_,27,_,rfl,if_pos rfl,RowsAt.tail' F hj Z⟩) (by rw[T];omega) (λ_=>?_) (λhc=>by omega))|(refine aW (e:=27) (sz:=8) (l:=rows.length-1) (h:=rows.length) (m:=cap) ((rows.length-1)*8) 1 (cap-(rows.length-1)) (by kernel_rfl) (by kernel_rfl) rfl ⟨_,rfl⟩ ⟨_,rfl⟩ rfl (λh=>by cases h) (by omega) (by omega) (Nat.le_refl _) (by rw[if_neg (by omega)];omega) (by omega) rfl ?_)|(refine o5 (elem:=27) (sz:=8) (z:=zU) (by kernel_rfl) (by kernel_rfl) rfl (by decide) rfl (if_pos rfl) (by rw[length_append,length_append,length_take,length_drop,I,au _ M,N];omega) (λh=>by cases h) (λ_=>?_))))
 all_goals
  refine RET.mk' (SubN.refl _) (bD.mk N.symm (by omega) h2 M ?_)
  rw[length_append,au _ M,N]
  simp only[length_cons,length_drop,I]
  omega
theorem x233 {σ:Store} {D E T O c2 k1:Nat} {cs:List AV} {I:TypeId} {rows:List (List AV)} (F:D≠E) (J:σ.get D=some (.tok 27 k1)) (M:σ.get E=some (.cells I cs)) (N:cs≠[]):
  XSpec G Tryz.prog (.func (.func 242) #[] #[]) [.own (some D) 27 8 rows,.sc (.slice (some ⟨E,T,none⟩) O c2)] σ (λr σ'=>r= .bool false/\σ'=σ):=
 XOVER (tS:=25) (tR:=4) (e:=27) (sz:=8) (λw vs=>run_callFunc_extern (e:=Extern.SlicesOverlaps.overlaps #[25,25] #[4]) Tryz.func242 (by kernel_rfl) (by kernel_rfl) (by kernel_rfl) (by kernel_rfl) vs w) (by kernel_rfl) (by kernel_rfl) F J M N
def dL (rows:List (List AV)) (j:Nat) (x:List AV):List (List AV):=rows.take j++x::rows.drop j
theorem putAt_len (rows:List (List AV)) (j:Nat) (x:List AV):(dL rows j x).length=rows.length+1:=by
 unfold dL
 rw[length_append,length_cons,length_take,length_drop];omega
theorem putAt_row {sz:Nat} {rows:List (List AV)} {j:Nat} {x:List AV} (h:∀r∈rows,r.length=sz) (E:x.length=sz):∀r∈dL rows j x,r.length=sz:=by
 intro r D
 rcases mem_append.1 D with D|D
 ·exact h r (mem_of_mem_take D)
 ·rcases mem_cons.1 D with rfl|D
  ·exact E
  ·exact h r (mem_of_mem_drop D)
set_option maxHeartbeats 2000000 in
theorem f155 (rows:List (List AV)) (v:AV) (κ:Store) (ho:bD 27 8 rows v κ) (j:Nat) (hj:j<=rows.length) (hl:rows.length<1000000) (O:Nat) (x:List AV) (hx:x.length=8):
  ag G Tryz.prog 155 [v,.int .i64 j,.own (some O) 27 8 [x]] (κ++[(O,.tok 27 8)]) (λr σ'=>∃bo,bD 27 8 (dL rows j x) r bo/\σ'=bo++[(O,.tok 27 8)]):=by
 by_cases bi:j=rows.length
 ·subst bi
  have hp:dL rows rows.length x=rows++[x]:=by unfold dL;rw[take_length,drop_length]
  rw[hp]
  refine ag.wn c155 λT=>?_
  unfold s155 r155
  obtain⟨J,cap,rfl,h⟩:=ho
  rcases h with⟨rfl,rfl,rfl⟩|⟨b,pad,rfl,rfl,h1,h2,M,h4⟩
  ·have bu:la (.slice J 0 0):=by
    cases J with
    |none=>exact .inl rfl
    |some a=>exact .inr ⟨a,rfl⟩
   (repeat' (first|simp only[EVz,seval,↓reduceIte,EV6,EV7]|(refine oi (e:=27) (sz:=8) (by kernel_rfl) (by kernel_rfl) rfl ⟨_,rfl⟩ rfl rfl (λh=>by cases h) ?_)|(refine bY (e:=27) (e':=27) (sz:=8) (bytes:=120) (rows:=[]) (ys:=[x]) (g:=none) (xv:=.sc (.slice J 0 0)) (by kernel_rfl) (by kernel_rfl) (by kernel_rfl) (by kernel_rfl) (by decide) (by decide) rfl (.inl ⟨rfl,rfl,.inr ⟨_,rfl,bu⟩⟩) ⟨rfl,rfl⟩ (by simp) (λ_ h=>by cases h) (λb' I pad hb g1 g2 g3 g4=>?_))))
   exact RET.mk' (SubN.refl _) ⟨_,bD.mk rfl g1 g2 g3 g4,rfl⟩
  ·have ac:¬O=b:=by
    simp[Store.keys]at T
    exact λe=>T e.symm
   have bw:Store.erase [(b,AObj.cells 27 (rows.flatten++pad)),(O,.tok 27 8)] (some b)=[(O,.tok 27 8)]:=by simp[Store.erase,ac]
   (repeat' (first|simp only[EVz,seval,↓reduceIte,EV6,EV7,bw]|(refine aW (e:=27) (sz:=8) (l:=rows.length) (h:=rows.length) (m:=cap) _ _ _ (by kernel_rfl) (by kernel_rfl) rfl ⟨_,rfl⟩ rfl rfl (λh=>by cases h) (by omega) h1 (Nat.le_refl _) rfl rfl rfl ?_)|(refine bY (e:=27) (e':=27) (sz:=8) (bytes:=120) (rows:=rows) (ys:=[x]) (g:=some b) (xv:=.sc (.slice (some ⟨b,0,none⟩) rows.length cap)) (by kernel_rfl) (by kernel_rfl) (by kernel_rfl) (by kernel_rfl) (by decide) (by decide) rfl (.inr ⟨b,cap,pad,rfl,rfl,if_pos rfl,M,h4,h1,h2⟩) ⟨rfl,rfl⟩ (by simp;omega) (λ_ h=>by cases h) (λb' I E hb g1 g2 g3 g4=>?_))))
   exact RET.mk' (SubN.refl _) ⟨_,bD.mk (by simp) g1 g2 g3 g4,rfl⟩
 ·obtain⟨J,cap,rfl,h⟩:=ho
  rcases h with⟨rfl,rfl,rfl⟩|⟨b,pad,rfl,rfl,h1,h2,M,h4⟩
  ·simp at hj
   exact absurd hj bi
  refine ag.wn c155 λT=>?_
  unfold s155 r155
  have ac:¬O=b:=by
   simp[Store.keys]at T
   exact λe=>T e.symm
  have bb:¬b=O:=λe=>ac e.symm
  have e0:decide ((j:Int)=(rows.length:Int))=false:=decide_eq_false (by omega)
  have w1:IntKind.i64.wrap ((rows.length:Int)+1)=((rows.length+1:Nat):Int):=by rw[aA (by omega) (by omega)];omega
  have w2:IntKind.i64.wrap (((rows.length+1:Nat):Int)-(j:Int))=((rows.length+1-j:Nat):Int):=by rw[aA (by omega) (by omega)];omega
  have w3:IntKind.i64.wrap ((j:Int)+1)=((j+1:Nat):Int):=by rw[aA (by omega) (by omega)];omega
  have bk:j<rows.length:=by omega
  have F:(rows.take j).flatten.length=j*8:=by rw[au _ (λr Z=>M r (mem_of_mem_take Z)),length_take,Nat.min_eq_left (by omega)]
  have N:(rows.drop j).flatten.length=(rows.length-j)*8:=by rw[au _ (λr Z=>M r (mem_of_mem_drop Z)),length_drop]
  have bl:=putAt_len rows j x
  have bm:=putAt_row (j:=j) M hx
  have ad:∀D,(dL rows j x).flatten++D=(rows.take j).flatten++(x++((rows.drop j).flatten++D)):=λD=>by unfold dL;simp[append_assoc]
  by_cases hc:rows.length+1<=cap
  ·have e1:decide ((cap:Int)<((rows.length+1:Nat):Int))=false:=decide_eq_false (by omega)
   have d3:8<=pad.length:=by
    have:=au rows M
    rw[length_append]at h4
    omega
   have bn:rows[j].length=8:=M _ (getElem_mem bk)
   have bq:rows.flatten++pad=(rows.take j).flatten++((rows.drop j++[pad.take 8]).flatten++pad.drop 8):=by
    have h5:rows.flatten=(rows.take j).flatten++(rows.drop j).flatten:=by rw[←flatten_append,take_append_drop]
    rw[h5]
    simp[append_assoc]
   have bp:RowsAt 8 (rows.flatten++pad) (j*8) (rows.length+1-j) (rows.drop j++[pad.take 8]):=by
    rw[bq]
    refine RowsAt.mid F.symm (by simp;omega) (λr Z=>?_)
    rcases mem_append.1 Z with Z|Z
    ·exact M r (mem_of_mem_drop Z)
    ·simp only[mem_singleton]at Z;subst Z;rw[length_take];omega
   have d1:(rows.drop j++[pad.take 8]).take (rows.length-j)=rows.drop j:=by
    rw[take_append_of_le_length (by rw[length_drop];omega),take_of_length_le (by rw[length_drop];omega)]
   have V:aH (rows.flatten++pad) ((j+1)*8) ((rows.drop j++[pad.take 8]).take (rows.length-j)).flatten=(rows.take j).flatten++(rows[j]++((rows.drop j).flatten++pad.drop 8)):=by
    have be:=au rows M
    have bs:rows.flatten.drop ((j+1)*8+(rows.drop j).flatten.length)=[]:=drop_eq_nil_of_le (by rw[N,be];omega)
    rw[d1,aY _ _ _ (by rw[N,h4];omega),lT M (by omega),drop_append,bs,nil_append,N,be,show(j+1)*8+(rows.length-j)*8-rows.length*8=8 by omega,take_succ_eq_append_getElem bk,flatten_append]
    simp[append_assoc]
   have X:aH ((rows.take j).flatten++(rows[j]++((rows.drop j).flatten++pad.drop 8))) (j*8) ([x].take 1).flatten=(dL rows j x).flatten++pad.drop 8:=by
    rw[ad]
    simpa using pE (A:=(rows.take j).flatten) (B:=rows[j]) (B':=x) (C:=(rows.drop j).flatten++pad.drop 8) F.symm (by rw[hx,bn])
   have bd:rows.flatten++pad≠[]:=λh=>by
    have:=congrArg List.length h
    rw[h4]at this
    simp at this
    omega
   have an:min (rows.drop j++[pad.take 8]).length (rows.length-j)=rows.length-j:=by rw[length_append,length_drop];exact Nat.min_eq_right (Nat.le_add_right _ _)
   have aw:min [x].length (rows.length+1-j)=1:=Nat.min_eq_left (by simp;omega)
   have cp:j*8+1*8<=((rows.take j).flatten++(rows[j]++((rows.drop j).flatten++pad.drop 8))).length:=by rw[length_append,length_append,F,bn];omega
   have ch:Store.get [(b,AObj.cells 27 (rows.flatten++pad)),(O,.tok 27 8)] O=some (.tok 27 8):=by simp[Store.get,bb]
   have cm:Store.get [(b,AObj.cells 27 (rows.flatten++pad)),(O,.tok 27 8)] b=some (.cells 27 (rows.flatten++pad)):=by simp[Store.get]
   generalize dc:rows[j]=rj at*
   (repeat' (first|simp only[EVz,seval,↓reduceIte,EV6,EV7,e0,w1,e1,w3]|(with_reducible first|refine ae ?_ ?_|refine af ?_)|(refine aW (e:=27) (sz:=8) (l:=j) (h:=rows.length) (m:=cap) _ _ _ (by kernel_rfl) (by kernel_rfl) rfl ⟨_,rfl⟩ rfl rfl (λh=>by cases h) (by omega) h1 (Nat.le_refl _) rfl rfl rfl ?_)|(refine nU (e:=27) rfl (by kernel_rfl) ?_)|(refine aW (e:=27) (sz:=8) (l:=0) (h:=rows.length+1) (m:=cap) 0 (rows.length+1) cap (by kernel_rfl) (by kernel_rfl) rfl rfl ⟨_,rfl⟩ rfl (λh=>by cases h) (by omega) hc (Nat.le_refl _) (by split<;>rfl) rfl rfl ?_)|(refine aW (e:=27) (sz:=8) (l:=j+1) (h:=rows.length+1) (m:=cap) ((j+1)*8) (rows.length-j) (cap-(j+1)) (by kernel_rfl) (by kernel_rfl) rfl ⟨_,rfl⟩ rfl rfl (λh=>by cases h) (by omega) hc (Nat.le_refl _) (by rw[if_neg (by omega)];omega) (by omega) rfl ?_)|(refine CALL_x _ [] (x233 G ac ch cm bd) (ax.rfl' _) (by rw[append_nil];exact SubN.refl _) (λr' d4 h'=>?_))|(obtain⟨rfl,rfl⟩:=h')|(refine aW (e:=27) (sz:=8) (l:=j) (h:=rows.length+1) (m:=cap) (j*8) (rows.length+1-j) (cap-j) (by kernel_rfl) (by kernel_rfl) rfl ⟨_,rfl⟩ rfl rfl (λh=>by cases h) (by omega) hc (Nat.le_refl _) (by rw[if_neg (by omega)];omega) (by omega) rfl ?_)|(refine gy (elem:=27) (sz:=8) (b:=b) (ys:=rows.drop j++[pad.take 8]) (rows.length-j) _ (by kernel_rfl) (by kernel_rfl) rfl (if_pos rfl) (.inr ⟨b,j*8,_,_,27,_,rfl,if_pos rfl,bp⟩) an (by omega) (by rw[h4];omega) V ?_)|(refine gy (elem:=27) (sz:=8) (b:=b) (ys:=[x]) 1 _ (by kernel_rfl) (by kernel_rfl) rfl (if_pos rfl) (.inl ⟨rfl,rfl⟩) aw (by omega) cp X ?_)))
   all_goals
    refine RET.mk' (SubN.refl _) ⟨_,bD.mk bl.symm (by omega) h2 bm ?_,rfl⟩
    rw[ad,length_append,length_append,length_append,F,N,hx,length_drop]
    rw[length_append,au rows M]at h4
    omega
  ·have e1:decide ((cap:Int)<((rows.length+1:Nat):Int))=true:=decide_eq_true (by omega)
   have bh:j+(rows.length+1-j)=rows.length+1:=by omega
   have cw:rows.length+1-j=(rows.length-j)+1:=by omega
   have an:min [x].length (rows.length+1-j)=1:=Nat.min_eq_left (by simp;omega)
   have aw:min (rows.drop j).length (rows.length-j)=rows.length-j:=by rw[length_drop];exact Nat.min_self _
   obtain⟨Y,d2,ba⟩:∃Y,cK Tryz.prog 27=some Y/\Y.length=8:=⟨zU,by kernel_rfl,rfl⟩
   have ah:∀k,(List.replicate k Y).flatten.length=k*8:=λk=>by rw[cb,ba]
   have V:∀E:List AV,aH ((rows.take j).flatten++((List.replicate (rows.length+1-j) Y).flatten++E)) (j*8) ([x].take 1).flatten=(rows.take j).flatten++(x++((List.replicate (rows.length-j) Y).flatten++E)):=λE=>by
    rw[cw,replicate_succ,flatten_cons,append_assoc]
    simpa using pE (A:=(rows.take j).flatten) (B:=Y) (B':=x) (C:=(List.replicate (rows.length-j) Y).flatten++E) F.symm (by rw[hx,ba])
   have d0:(rows.drop j).take (rows.length-j)=rows.drop j:=take_of_length_le (by rw[length_drop];omega)
   have X:∀E:List AV,aH ((rows.take j).flatten++(x++((List.replicate (rows.length-j) Y).flatten++E))) ((j+1)*8) ((rows.drop j).take (rows.length-j)).flatten=(dL rows j x).flatten++E:=λE=>by
    rw[d0,ad]
    simpa[append_assoc]using pE (o:=(j+1)*8) (A:=(rows.take j).flatten++x) (B:=(List.replicate (rows.length-j) Y).flatten) (B':=(rows.drop j).flatten) (C:=E) (by rw[length_append,F,hx];omega) (by rw[N,ah])
   (repeat' (first|simp only[EVz,seval,↓reduceIte,EV6,EV7,e0,w1,e1,w2,w3,bh]|(with_reducible first|refine ae ?_ ?_|refine af ?_)|(refine aW (e:=27) (sz:=8) (l:=j) (h:=rows.length) (m:=cap) (j*8) (rows.length-j) (cap-j) (by kernel_rfl) (by kernel_rfl) rfl ⟨_,rfl⟩ rfl rfl (λh=>by cases h) (by omega) (by omega) (Nat.le_refl _) (by rw[if_neg (by omega)];omega) rfl rfl ?_)|(refine nU (e:=27) rfl (by kernel_rfl) ?_)|(refine aW (e:=27) (sz:=8) (l:=0) (h:=j) (m:=cap) 0 j cap (by kernel_rfl) (by kernel_rfl) rfl rfl ⟨_,rfl⟩ rfl (λh=>by cases h) (by omega) (by omega) (Nat.le_refl _) (by split<;>rfl) rfl rfl ?_)|(refine jD (e:=27) (sz:=8) (bytes:=120) (rows:=rows.take j) (k:=rows.length+1-j) (z:=Y) (kn:=.i64) (by kernel_rfl) (by kernel_rfl) (by kernel_rfl) d2 ba (by decide) (by decide) rfl (if_pos rfl) (RowsAt.head M (by omega)) rfl (by omega) (by omega) (by rw[bh];omega) (λb' I E al g1 g2 g3=>?_))|(simp only[Store.keys,map_cons,map_nil,mem_cons,not_mem_nil,or_false,not_or]at al)|(refine aW (e:=27) (sz:=8) (l:=j) (h:=rows.length+1) (m:=I) (j*8) (rows.length+1-j) (I-j) (by kernel_rfl) (by kernel_rfl) rfl ⟨_,rfl⟩ rfl rfl (λh=>by cases h) (by omega) (by omega) (Nat.le_refl _) (by rw[if_neg (by omega)];omega) rfl rfl ?_)|(refine gy (elem:=27) (sz:=8) (b:=b') (ys:=[x]) 1 _ (by kernel_rfl) (by kernel_rfl) rfl (if_pos rfl) (.inl ⟨rfl,rfl⟩) an (by omega) (by rw[length_append,length_append,F,ah];omega) (V E) ?_)|(refine aW (e:=27) (sz:=8) (l:=j+1) (h:=rows.length+1) (m:=I) ((j+1)*8) (rows.length-j) (I-(j+1)) (by kernel_rfl) (by kernel_rfl) rfl ⟨_,rfl⟩ rfl rfl (λh=>by cases h) (by omega) (by omega) (Nat.le_refl _) (by rw[if_neg (by omega)];omega) (by omega) rfl ?_)|(refine gy (elem:=27) (sz:=8) (b:=b') (ys:=rows.drop j) (rows.length-j) _ (by kernel_rfl) (by kernel_rfl) rfl (if_pos rfl) (.inr ⟨b,j*8,_,_,27,_,rfl,(if_neg al.1).trans (if_pos rfl),RowsAt.tail M (by omega)⟩) aw (by omega) (by rw[length_append,length_append,length_append,F,hx,ah];omega) (X E) ?_)))
   all_goals
    refine RET.mk' (σ':=[(b',AObj.cells 27 ((dL rows j x).flatten++E))]++[(O,.tok 27 8)]) ⟨λq hq=>?_,λhn=>?_⟩ ⟨_,bD.mk bl.symm (by omega) g2 bm ?_,rfl⟩
    ·simp only[cons_append,nil_append,mem_cons,not_mem_nil,or_false]at hq ⊢
     rcases hq with hq|hq
     ·exact .inl hq
     ·exact .inr (.inr hq)
    ·simp[Store.keys]
     exact al.2
    ·rw[ad,length_append,length_append,length_append,F,N,hx]
     rw[length_append,length_append,F,ah]at g3
     omega
end
section
variable (G:Glob)
theorem f229 (f:Value) (N:Nat) (St:List U->Store->Prop) (hN:N<1000000):
  ∀(u:U),u.Tame->(∀x∈u.flat,∀pre σ,St pre σ->pre.length<N->cd G Tryz.prog f [.agg x.cs] σ (λr σ'=>St (pre++[x]) σ'))->
   ∀pre σ,St pre σ->pre.length+u.flat.length<=N->ag G Tryz.prog 229 [.agg u.cs,.sc f] σ (λr σ'=>St (pre++u.flat) σ'):=by
 refine U.ind λu ih ht hf pre σ X al=>?_
 have ah:=ht.kids
 have J:=u.flat_eq
 have ad:u.flat.length=1+(U.flats u.kids).length:=by rw[J,length_cons];omega
 refine ag.w c229 ?_
 unfold s229 r229
 (repeat' (simp only[EVz,seval,↓reduceIte,EV6,EV7]))
 refine aZ σ [] (hf u u.flat_self pre σ X (by omega)) (ax.rfl' _) (by simpa using SubN.refl _) ?_
 rintro r σ' F
 rw[append_nil]
 (repeat' (first|simp only[EVz,seval,↓reduceIte,EV6,EV7,D.yes,D.le0,D.lt',D.get,D.row,hw]|simp only[EVz,seval,↓reduceIte,EV6,EV7,hn]|simp only[EVz,seval,↓reduceIte,EV6,EV7]|(with_reducible intro T I;(try(have M:=I;simp only[EVK]at M;(have an:=M))))|(refine ay (ι:=Store×List U) u.kids (λi r c=>St c.2 c.1/\pre++u.flat=c.2++U.flats r/\c.2.length+(U.flats r).length<=N) (λi c=>[(1,.sc f),(10,.lst 8 (u.kids.map U.cs)),(11,.int .i64 u.kids.length),(12,.int .i64 i)]) (λi c=>c.1) (σ',pre++[u]) ⟨F,by rw[J];simp,by simp;omega⟩ (Weak.rfl' _ _) (by omega) (λi x r c E D hw=>?_) (λc E hn=>?_))))
 ·obtain⟨Y,O,Z⟩:=E
  rw[pk]at O Z
  rw[length_append]at Z
  refine aZ c.1 [(T,.cells 27 x.cs)] (ih x D.mem (ht.kid D.mem) (λy hy=>hf y (qq D.mem hy)) c.2 c.1 Y (by omega)).v (ax.rfl' _) SubN.comm1 ?_
  rintro r' ac V
  (repeat' (simp only[EVz,seval,↓reduceIte,EV6,EV7,hw]))
  exact ap D (ac,c.2++x.flat) ⟨V,by rw[O,append_assoc],by simp;omega⟩ (Weak.sub SubN.left)
 ·obtain⟨Y,O,Z⟩:=E
  exact RET.mk (SubN.refl _) (by rw[O,pp,append_nil];exact Y)
def St1 (D E:Nat) (p:List Stp) (s:Stp) (pre:List U) (σ:Store):Prop:=∃v κ,(bD 27 8 ((pre.filter λx=>aL x s).map U.cs) v κ\/(pre.filter λx=>aL x s)=[]/\v= .nil/\κ=[])/\σ=[(D,.cells 46 [.lst 2 (p.map Stp.cs)]),(E,.cells 25 [v])]++κ
theorem f230 (b3 b5:Nat) (s:Stp) (rs:List Stp) (x:U) (pre:List U) (bn:pre.length<1000000) (σ:Store) (hS:St1 b3 b5 (s::rs) s pre σ):
  ag G Tryz.prog 230 [.agg x.cs,.sc (.pointer (some ⟨b3,0,none⟩)),.sc (.pointer (some ⟨b5,0,none⟩))] σ (λr σ'=>St1 b3 b5 (s::rs) s (pre++[x]) σ'):=by
 obtain⟨v,κ,ho,rfl⟩:=hS
 have hC:=f231 G x s
 have ba:(pre.filter λx=>aL x s).length<=pre.length:=length_filter_le _ _
 obtain⟨L,hL⟩:∃L,pre.filter (λx=>aL x s)=L:=⟨_,rfl⟩
 rw[hL]at ho ba
 refine ag.wn c230 λT=>?_
 unfold s230 r230
 have N:(pre++[x]).filter (λx=>aL x s)=if aL x s=true then L++[x]else L:=by
  rw[filter_append,hL]
  cases hq:aL x s<;>simp[hq]
 rcases ho with⟨ad,cap,rfl,⟨h0,rfl,rfl⟩|⟨b,pad,rfl,rfl,h1,h2,h3,h4⟩⟩|⟨h0,rfl,rfl⟩
 ·have bk:L=[]:=by simpa using h0
  subst bk
  have E:¬b5=b3:=by simp[Store.keys]at T;exact λe=>T e.symm
  have F:¬b3=b5:=λe=>E e.symm
  cases hc:aL x s with
  |false=>
   rw[hc]at hC N
   (repeat' (first|(with_reducible first|refine AI (by omega) ?_|refine aa hC ?_)|simp only[EVz,seval,↓reduceIte,EV6,EV7,E,F,map_cons,getD_cons_zero]))
   all_goals exact RET.mk' (SubN.refl _) ⟨_,[],.inl (by rw[N];exact⟨ad,0,rfl,.inl ⟨rfl,rfl,rfl⟩⟩),rfl⟩
  |true=>
   rw[hc]at hC N
   have bm:la (.slice ad 0 0):=by
    cases ad with
    |none=>exact .inl rfl
    |some a=>exact .inr ⟨a,rfl⟩
   obtain⟨O,ac⟩:∃O:List AV,O=[.int .i64 0,.int .i64 0,.int .i64 0,.int .i64 0,.str [],.nil,.nil,.nil]:=⟨_,rfl⟩
   have I:O.length=8:=by rw[ac];rfl
   have al:∀D:List AV,([O].flatten++D).drop 8=D:=λD=>by rw[←I];simp
   have bb:∀D:List AV,8<=([O].flatten++D).length:=λD=>by rw[length_append];simp[I]
   (repeat' (first|(with_reducible first|refine AI (by omega) ?_|refine aa hC ?_)|simp only[EVz,seval,↓reduceIte,EV6,EV7,E,F,map_cons,getD_cons_zero,dx,al,J]|simp only[EVz,seval,↓reduceIte,EV6,EV7,E,F,map_cons,getD_cons_zero,dx,al]|(with_reducible intro bd Y;(try(have Z:=Y;simp only[EVK]at Z;(have J:=Z))))|(with_reducible refine ae ?_ ?_)|(refine⟨[O],rfl,(by simp[I]),(by simp[ac]),?_⟩)|(refine bY (e:=27) (e':=27) (sz:=8) (bytes:=120) (rows:=[]) (ys:=[O]) (g:=none) (xv:=.sc (.slice ad 0 0)) (by kernel_rfl) (by kernel_rfl) (by kernel_rfl) (by kernel_rfl) (by decide) (by decide) rfl (.inl ⟨rfl,rfl,.inr ⟨_,rfl,bm⟩⟩) ⟨rfl,rfl⟩ (by simp) (λ_ h=>by cases h) (λb' M D hb g1 g2 g3 g4=>?_))|((simp only[EVK,dx]at hb;have J:=AI hb J))|(refine⟨bb _,_,_,Weak.rfl' _ _,?_⟩)))
   all_goals
    refine RET.mk' (σ':=[(b3,AObj.cells 46 [.lst 2 ((s::rs).map Stp.cs)]),(b5,AObj.cells 25 [.sc (.slice (some ⟨b',0,none⟩) 1 M)])]++[(b',AObj.cells 27 (x.cs++D))]) (SubN.trans (SubN.perm (perm_append_comm (l₁:=[_,_]) (l₂:=[_]))) (SubN.cons (SubN.tail (SubN.refl _) _) _)) ⟨_,_,.inl ?_,rfl⟩
    have:=bD.mk (e:=27) (sz:=8) (b:=b') (rows:=[x.cs]) (pad:=D) (n:=1) (cap:=M) rfl g1 g2 (by simp[U.cs_len]) (by rw[←g4];simp[U.cs_len,I])
    rw[N]
    simpa using this
 ·have E:¬b5=b3:=by simp[Store.keys]at T;exact λe=>T.1.1 e.symm
  have F:¬b3=b5:=λe=>E e.symm
  have V:¬b3=b:=by simp[Store.keys]at T;exact T.1.2
  have X:¬b5=b:=by simp[Store.keys]at T;exact T.2
  have an:¬b=b3:=λe=>V e.symm
  have aw:¬b=b5:=λe=>X e.symm
  rw[length_map]at h1
  cases hc:aL x s with
  |false=>
   rw[hc]at hC N
   (repeat' (first|(with_reducible first|refine AI (by omega) ?_|refine aa hC ?_)|simp only[EVz,seval,↓reduceIte,EV6,EV7,E,F,V,X,an,aw,map_cons,getD_cons_zero,length_map]))
   all_goals exact RET.mk' (SubN.refl _) ⟨_,[(b,_)],.inl (by rw[N];exact bD.mk (by simp) (by rw[length_map];exact h1) h2 h3 h4),rfl⟩
  |true=>
   rw[hc]at hC N
   obtain⟨O,ac⟩:∃O:List AV,O=[.int .i64 0,.int .i64 0,.int .i64 0,.int .i64 0,.str [],.nil,.nil,.nil]:=⟨_,rfl⟩
   have I:O.length=8:=by rw[ac];rfl
   obtain⟨R0,ah⟩:∃R0,L.map U.cs=R0:=⟨_,rfl⟩
   have bl:R0.length=L.length:=by rw[←ah,length_map]
   rw[ah]at h3 h4
   have ba:=au R0 h3
   have bi:∀D:List AV,aH ((R0++[O]).flatten++D) (0+R0.length*8) x.cs=(R0++[x.cs]).flatten++D:=λD=>by
    rw[flatten_append,flatten_append,append_assoc,append_assoc]
    simpa using pE (A:=R0.flatten) (B:=O) (B':=x.cs) (C:=D) (o:=R0.length*8) (by rw[ba]) (by rw[U.cs_len,I])
   have bb:∀D:List AV,0+R0.length*8+8<=((R0++[O]).flatten++D).length:=λD=>by rw[length_append,flatten_append,length_append,ba];simp[I]
   have be:(R0++[O]).length=R0.length+1:=by rw[length_append];rfl
   (repeat' (first|(with_reducible first|refine AI (by omega) ?_|refine aa hC ?_)|simp only[EVz,seval,↓reduceIte,EV6,EV7,E,F,V,X,an,aw,map_cons,getD_cons_zero,length_map,jV,lE,bi,be,ah,J]|simp only[EVz,seval,↓reduceIte,EV6,EV7,E,F,V,X,an,aw,map_cons,getD_cons_zero,length_map,jV,lE,bi,be,ah]|(with_reducible intro bd Y;(try(have Z:=Y;simp only[EVK]at Z;(have J:=Z))))|(with_reducible first|refine ae ?_ ?_|refine af ?_)|(refine⟨[O],rfl,(by simp[I]),(by simp[ac]),?_⟩)|(refine bY (e:=27) (e':=27) (sz:=8) (bytes:=120) (rows:=R0) (ys:=[O]) (g:=some b) (xv:=.sc (.slice (some ⟨b,0,none⟩) R0.length cap)) (by kernel_rfl) (by kernel_rfl) (by kernel_rfl) (by kernel_rfl) (by decide) (by decide) rfl (.inr ⟨b,cap,pad,rfl,rfl,(by simp[Store.get,J,V,X]),h3,h4,by omega,h2⟩) ⟨rfl,rfl⟩ (by rw[bl];simp;omega) (λ_ h=>by cases h) (λb' M D hb g1 g2 g3 g4=>?_))|((simp[Store.keys,Store.erase,J,V,X]at hb;have J:=AI hb J))))
   all_goals
    refine RET.mk' (σ':=[(b3,AObj.cells 46 [.lst 2 ((s::rs).map Stp.cs)]),(b5,AObj.cells 25 [.sc (.slice (some ⟨b',0,none⟩) (R0.length+1) M)])]++[(b',AObj.cells 27 ((R0++[x.cs]).flatten++D))]) (SubN.trans (SubN.perm (perm_append_comm (l₁:=[_,_]) (l₂:=[_]))) (SubN.cons (SubN.tail (SubN.refl _) _) _)) ⟨_,_,.inl ?_,rfl⟩
    have bh:∀r∈R0++[x.cs],r.length=8:=λr hr=>by
     rcases mem_append.1 hr with hr|hr
     ·exact h3 r hr
     ·simp only[mem_singleton]at hr;subst hr;exact U.cs_len x
    have:=bD.mk (e:=27) (sz:=8) (b:=b') (rows:=R0++[x.cs]) (pad:=D) (n:=R0.length+1) (cap:=M) (by simp) (by simpa using g1) g2 bh (by rw[←g4];simp[U.cs_len,I])
    rw[N]
    simpa[ah]using this
 ·subst h0
  have E:¬b5=b3:=by simp[Store.keys]at T;exact λe=>T e.symm
  have F:¬b3=b5:=λe=>E e.symm
  cases hc:aL x s with
  |false=>
   rw[hc]at hC N
   (repeat' (first|(with_reducible first|refine AI (by omega) ?_|refine aa hC ?_)|simp only[EVz,seval,↓reduceIte,EV6,EV7,E,F,map_cons,getD_cons_zero]))
   all_goals exact RET.mk' (SubN.refl _) ⟨_,[],.inr ⟨by rw[N];rfl,rfl,rfl⟩,rfl⟩
  |true=>
   rw[hc]at hC N
   obtain⟨O,ac⟩:∃O:List AV,O=[.int .i64 0,.int .i64 0,.int .i64 0,.int .i64 0,.str [],.nil,.nil,.nil]:=⟨_,rfl⟩
   have I:O.length=8:=by rw[ac];rfl
   have al:∀D:List AV,([O].flatten++D).drop 8=D:=λD=>by rw[←I];simp
   have bb:∀D:List AV,8<=([O].flatten++D).length:=λD=>by rw[length_append];simp[I]
   (repeat' (first|(with_reducible first|refine AI (by omega) ?_|refine aa hC ?_)|simp only[EVz,seval,↓reduceIte,EV6,EV7,E,F,map_cons,getD_cons_zero,dx,al,J]|simp only[EVz,seval,↓reduceIte,EV6,EV7,E,F,map_cons,getD_cons_zero,dx,al]|(with_reducible intro bd Y;(try(have Z:=Y;simp only[EVK]at Z;(have J:=Z))))|(with_reducible refine ae ?_ ?_)|(refine⟨[O],rfl,(by simp[I]),(by simp[ac]),?_⟩)|(refine bY (e:=27) (e':=27) (sz:=8) (bytes:=120) (rows:=[]) (ys:=[O]) (g:=none) (xv:=.nil) (by kernel_rfl) (by kernel_rfl) (by kernel_rfl) (by kernel_rfl) (by decide) (by decide) rfl (.inl ⟨rfl,rfl,.inl rfl⟩) ⟨rfl,rfl⟩ (by simp) (λ_ h=>by cases h) (λb' M D hb g1 g2 g3 g4=>?_))|((simp only[EVK,dx]at hb;have J:=AI hb J))|(refine⟨bb _,_,_,Weak.rfl' _ _,?_⟩)))
   all_goals
    refine RET.mk' (σ':=[(b3,AObj.cells 46 [.lst 2 ((s::rs).map Stp.cs)]),(b5,AObj.cells 25 [.sc (.slice (some ⟨b',0,none⟩) 1 M)])]++[(b',AObj.cells 27 (x.cs++D))]) (SubN.trans (SubN.perm (perm_append_comm (l₁:=[_,_]) (l₂:=[_]))) (SubN.cons (SubN.tail (SubN.refl _) _) _)) ⟨_,_,.inl ?_,rfl⟩
    have:=bD.mk (e:=27) (sz:=8) (b:=b') (rows:=[x.cs]) (pad:=D) (n:=1) (cap:=M) rfl g1 g2 (by simp[U.cs_len]) (by rw[←g4];simp[U.cs_len,I])
    rw[N]
    simpa using this
end
end Go.Av
