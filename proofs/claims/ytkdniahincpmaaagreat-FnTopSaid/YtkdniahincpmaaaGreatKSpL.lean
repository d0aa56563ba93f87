/-
  The law FnSplit, without its argument: a play in two parts is the play.
-/
import Derived.Test.YtkdniahincpmaaaGreatKB48
import Derived.Test.YtkdniahincpmaaaGreatKB38
set_option maxRecDepth 100000
set_option maxHeartbeats 16000000
namespace Go.Proofs.YtkdniahincpmaaaGreat
open Go Go.RowKit Tryz
section
attribute [local irreducible] AWp QI OpOk ACalls ChA QsOk MCalls NCalls EnC PY

theorem QkV(w:Wld)(l:List WA)(k:Nat):JL (JL w (l.take k)) (l.drop k)=JL w l:=by
 unfold JL
 rw[<-XaJ,XaK]
theorem QqF{w:Wld}(h:Zh w)(hc:w.codes.length<=1048576):Xb 1048576 w:=⟨h.first,h.ctl,h.bytes,hc⟩
theorem Qrz{w:Wld}{l:List WA}(h:Zh w)(hc:w.codes.length+l.length<=1000):Xb 1048576 (JL w l):=by
 have:=(QhS (l:=l) h l.length (Xaj _))
 rw[Xak]at this
 exact QqF this.1 (by omega)
theorem lawSplit_e{b:List UInt8}:zAc 5 [zL (QK b)] [.d (.b true)] []:=by
 refine zAC func5 fun w0 Z=>?_
 have aa:=Qy b
 by_cases p:b.length<=1048576
 ·repeat'(first|(refine zhm fun hb=>?_;try exact zab)|refine Qd ?_|(apply zch;exact zcg)|exact zhk|refine zg3 ?_ ?_|(refine km [] (X9 p) rfl rfl (fun i hi=>?_);try dsimp only at hi)|intro _)
  obtain⟨s,l⟩:=i
  obtain⟨r,t,hl⟩:=hi
  dsimp only at r t hl ⊢
  have e:=QoC t
  have h:=Quv (X9 p) (s,l) (fun x hx=>by
   obtain⟨y,z⟩:=Prod.mk.inj (hx.1.symm.trans r)
   dsimp only
   rw[y,z])
  dsimp only at h
  generalize wld1 s=w at e h
  obtain⟨e,g⟩:=e
  have c:Wz w:=⟨e.small,by rw[g];decide⟩
  have ac:=W7 l
  have a:∀k,w.codes.length+(l.take k).length<=100:=fun k=>by rw[g,Xah,XaA];omega
  have m:=Ql5 c (l:=l) (by omega) (by rw[g,XaA];omega)
  have j:=Ql5 c (l:=l.take (l.length / 2)) (by have:=a (l.length / 2);omega) (by have:=a (l.length / 2);omega)
  have q:=QhS (l:=l.take (l.length / 2)) e.small _ (Xaj _)
  rw[Xak]at q
  have f:=Ql5 (w:=JL w (l.take (l.length / 2))) (l:=l.drop (l.length / 2)) ⟨q.1,by have:=a (l.length / 2);omega⟩ (by rw[XaL];omega) (by have:=a (l.length / 2);rw[XaL];omega)
  rw[QkV]at f
  have n:=QuT c (l:=l) (by omega) (by rw[g,XaA];omega)
  have o:=Qlk (Qrz (l:=l) e.small (by rw[g,XaA];omega))
  rw[show V0 (l.take (l.length / 2))=List.drop 0 (List.take (l.length / 2) (V0 l)) from XbM ..]at j
  rw[show V0 (l.drop (l.length / 2))=List.drop (l.length / 2) (List.take l.length (V0 l)) by rw[Xas (by omega)];exact Xcu ..]at f
  generalize JL w l=v at m f n o
  generalize JL w (l.take (l.length / 2))=u at j f
  repeat'(first|(apply QP 8;kernel_rfl;exact rfl)|(apply QP 6;kernel_rfl;exact rfl)|(refine zhm fun hb=>?_;try exact zab)|refine zUtd ?_|(apply zch;exact zcg)|exact zhk|refine zg3 ?_ ?_|(apply VS;first|(apply QOk.ok;refine QnQ (ft:=23) rfl rfl rfl rfl rfl rfl rfl ?_))|refine zln fun _=>?_|refine zop ?_|refine zqd o ?_|refine kmu h ?_|refine kmu m ?_|refine kmu j ?_|refine kmu f ?_|refine kmu n ?_|intro _)
  all_goals
   refine zr [] ?_ ?_
   repeat'(first|exact ze3|refine ze2 ?_ ?_|refine ze4 ?_|exact ze5|fail)
   all_goals exact zp (by first|rfl|simp)
 ·repeat'(first|(refine zhm fun hb=>?_;try exact zab)|refine Qd ?_|(apply zch;exact zcg)|exact zhk|refine zg3 ?_ ?_|intro _)
  refine zr [] ?_ ?_
  repeat'(first|exact ze3|refine ze2 ?_ ?_|refine ze4 ?_|exact ze5|fail)
  all_goals exact zp rfl
end
end Go.Proofs.YtkdniahincpmaaaGreat
