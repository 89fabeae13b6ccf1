/- LawShapeClauses, part 6: whatever the input, the law comes out true: our texts, joined by a tool, without what the claim does not name. -/
import Derived.Test.YtjmmjhojbodbdaaPkShapeClauses5
import Derived.SizedLaws
import Derived.ChangeSlices
import Derived.Below
import Derived.Test.YtjmmjhojbodbdaaRows
import Derived.WalkKit
import Derived.ProofKit
import Derived.OpenShut
import Derived.ShutString
import Derived.ChangeOld
set_option maxRecDepth 100000
set_option linter.unusedVariables false
set_option linter.unusedSimpArgs false
set_option maxRecDepth 100000
set_option linter.unusedVariables false
namespace Go.Proofs.Ytjmmjhojbodbdaa.Am
noncomputable section
open Go
theorem qPj (k:Nat)   (o:List Bool) (m:Int) (j:List S31)  : ∀ (n:Nat) (h:Int),Ok Xg4 g4p27 [(0,w4 o),(5,.i (fW .i64 ((fW .u64 m).tmod 4))),(11,w32 j),(12,.i h)] (mkH []) (qI3 k o m j n h):=by
 intro n
 induction n with
 | zero=>intro h; exact ok_none
 | succ n ih =>
  intro h
  show Ok _ _ _ _ (qF0 k o m j (qI3 k o m j n) h)
  unfold qF0
  refine qAk (p':=nav [0] g4p27) Kr ?_
  let a2:Env:=[(105,.bool (decide (h < (o.length:Int)))),(104,.i (o.length:Int)),(103,w4 o),(102,.i h),(0,w4 o),(5,.i (fW .i64 ((fW .u64 m).tmod 4))),(11,w32 j),(12,.i h)]
  refine oH 8 g4p31 a2 (mkH []) ?_
  refine oS 105 (λhb=>?_) (λhb=>?_)
  ·refine oR 7 (atN 1 (ctl1 g4p34)) ((108,w32 j)::(105,.bool true)::a2) ?_
   refine oC (λ(q:S31)=>(.vptr [.i q.f0,.str q.f1,q32 q.f2,.bool q.f3,.bool q.f4,w9 q.f5,w9 q.f6],(mkH []))) (atN 2 (ctl1 g4p34)) 109 (vidxH (sz:=7) qA4 Kr) λq b8=>?_
   let a6:Env:=((112,.i h)::(111,q32 q.f2)::(110,.vptr [q32 q.f2,.bool q.f3,.bool q.f4,w9 q.f5,w9 q.f6])::(109,.vptr [.i q.f0,.str q.f1,q32 q.f2,.bool q.f3,.bool q.f4,w9 q.f5,w9 q.f6])::(108,w32 j)::(105,.bool true)::a2)
   refine oH 3 (atN 5 (ctl1 g4p34)) a6 (mkH []) ?_
   refine ok_chk2 (λ(g:S31)=>(.vptr [.i g.f0,.str g.f1,q32 g.f2,.bool g.f3,.bool g.f4,w9 g.f5,w9 g.f6],(mkH []))) (atN 6 (ctl1 g4p34)) (λg=>((113,.vptr [.i g.f0,.str g.f1,q32 g.f2,.bool g.f3,.bool g.f4,w9 g.f5,w9 g.f6])::a6)) (λ_ hx=>vidxR (sz:=7) qBi hx Kr) (λ_=>by kernel_rfl) (λg b9=>?_)
   refine oLH 5 g4p38 [(0,w4 o),(5,.i (fW .i64 ((fW .u64 m).tmod 4))),(11,w32 j),(12,.i h),(13,.ptr 0 7 0)] (mkH [⟨e32 g,7,false⟩]) ?_
   refine oJ (nav [0] g4p38) (λ(Z:Bool×Int)=>[(0,w4 o),(5,.i (fW .i64 ((fW .u64 m).tmod 4))),(11,w32 j),(12,.i Z.2),(170,.bool Z.1)]) (λ(Z:Bool×Int)=>(mkH [])) (λZ=>?_) (λc2 J=>?_)
   ·refine oS 170 (λhb=>?_) (λhb=>?_)
    ·exact oQ 6
    ·refine oLH 7 g4p27 [(0,w4 o),(5,.i (fW .i64 ((fW .u64 m).tmod 4))),(11,w32 j),(12,.i (fW .i64 (Z.2+1)))] (mkH []) ?_
     exact ih (fW .i64 (Z.2+1))
   ·refine qCo (λF=>?_) (λF=>?_)
    ·let D:Env:=[(118,.bool (!(eqL g.f1 [102]))),(117,.bool (!(eqL g.f1 [102]))),(116,.str g.f1),(115,.ptr 0 7 1),(0,w4 o),(5,.i (fW .i64 ((fW .u64 m).tmod 4))),(11,w32 j),(12,.i h),(13,.ptr 0 7 0)]
     let a7:Env:=[(170,.bool true),(169,.tuple []),(168,.tuple []),(167,.bool true),(166,.bool true),(165,.tuple []),(164,.tuple []),(163,.tuple []),(162,.tuple []),(161,.tuple []),(160,.tuple []),(159,.tuple []),(158,.tuple []),(157,.tuple []),(156,.tuple []),(155,.tuple []),(154,.tuple []),(153,.tuple []),(152,.bool true),(151,.bool true),(150,.tuple []),(149,.tuple []),(148,.tuple []),(147,.tuple []),(146,.tuple []),(145,.tuple []),(144,.tuple []),(143,.bool true),(142,.bool true),(141,.tuple []),(140,.tuple []),(139,.tuple []),(138,.tuple []),(137,.tuple []),(136,.tuple []),(135,.tuple []),(134,.bool true),(133,.bool true),(132,.tuple []),(131,.tuple []),(130,.tuple []),(129,.tuple []),(128,.tuple []),(127,.tuple []),(126,.tuple []),(125,.tuple []),(124,.bool true),(123,.bool true),(122,.tuple []),(121,.tuple []),(120,.tuple []),(119,.tuple []),(118,.bool true),(117,.bool true),(116,.str g.f1),(115,.ptr 0 7 1),(0,w4 o),(5,.i (fW .i64 ((fW .u64 m).tmod 4))),(11,w32 j),(12,.i h),(13,.ptr 0 7 0)]
     refine oD (H':=(mkH [⟨e32 g,7,false⟩])) (nav [0] g4p38) a7 [] g4d0 (oDr 4 4 D (oDe (λz=>[(118,.bool z),(117,.bool z),(116,.str g.f1),(115,.ptr 0 7 1),(0,w4 o),(5,.i (fW .i64 ((fW .u64 m).tmod 4))),(11,w32 j),(12,.i h),(13,.ptr 0 7 0)]) F (oDr 52 56 a7 .nil))) ?_
     refine oK [0,5,11,12,170] [(0,w4 o),(5,.i (fW .i64 ((fW .u64 m).tmod 4))),(11,w32 j),(12,.i h),(170,.bool true)] ?_
     refine qA9 [] [⟨e32 g,7,false⟩] Kr rfl Kr trivial ?_
     exact J (true,h)
    ·refine qCo (λK=>?_) (λK=>?_)
     ·let D:Env:=[(118,.bool (!(eqL g.f1 [102]))),(117,.bool (!(eqL g.f1 [102]))),(116,.str g.f1),(115,.ptr 0 7 1),(0,w4 o),(5,.i (fW .i64 ((fW .u64 m).tmod 4))),(11,w32 j),(12,.i h),(13,.ptr 0 7 0)]
      let G:Env:=[(124,.bool (!decide ((g.f2.n:Int)=3))),(123,.bool (!decide ((g.f2.n:Int)=3))),(122,.bool (!decide ((g.f2.n:Int)=3))),(121,.i (g.f2.n:Int)),(120,q32 g.f2),(119,.ptr 0 7 2),(118,.bool false),(117,.bool false),(116,.str g.f1),(115,.ptr 0 7 1),(0,w4 o),(5,.i (fW .i64 ((fW .u64 m).tmod 4))),(11,w32 j),(12,.i h),(13,.ptr 0 7 0)]
      let a8:Env:=[(170,.bool true),(169,.tuple []),(168,.tuple []),(167,.bool true),(166,.bool true),(165,.tuple []),(164,.tuple []),(163,.tuple []),(162,.tuple []),(161,.tuple []),(160,.tuple []),(159,.tuple []),(158,.tuple []),(157,.tuple []),(156,.tuple []),(155,.tuple []),(154,.tuple []),(153,.tuple []),(152,.bool true),(151,.bool true),(150,.tuple []),(149,.tuple []),(148,.tuple []),(147,.tuple []),(146,.tuple []),(145,.tuple []),(144,.tuple []),(143,.bool true),(142,.bool true),(141,.tuple []),(140,.tuple []),(139,.tuple []),(138,.tuple []),(137,.tuple []),(136,.tuple []),(135,.tuple []),(134,.bool true),(133,.bool true),(132,.tuple []),(131,.tuple []),(130,.tuple []),(129,.tuple []),(128,.tuple []),(127,.tuple []),(126,.tuple []),(125,.tuple []),(124,.bool true),(123,.bool true),(122,.bool true),(121,.i (g.f2.n:Int)),(120,q32 g.f2),(119,.ptr 0 7 2),(118,.bool false),(117,.bool false),(116,.str g.f1),(115,.ptr 0 7 1),(0,w4 o),(5,.i (fW .i64 ((fW .u64 m).tmod 4))),(11,w32 j),(12,.i h),(13,.ptr 0 7 0)]
      refine oD (H':=(mkH [⟨e32 g,7,false⟩])) (nav [0] g4p38) a8 [] g4d0 (oDr 4 4 D (oDe (λz=>[(118,.bool z),(117,.bool z),(116,.str g.f1),(115,.ptr 0 7 1),(0,w4 o),(5,.i (fW .i64 ((fW .u64 m).tmod 4))),(11,w32 j),(12,.i h),(13,.ptr 0 7 0)]) F (oDr 6 10 G (oDe (λz=>[(124,.bool z),(123,.bool z),(122,.bool z),(121,.i (g.f2.n:Int)),(120,q32 g.f2),(119,.ptr 0 7 2),(118,.bool false),(117,.bool false),(116,.str g.f1),(115,.ptr 0 7 1),(0,w4 o),(5,.i (fW .i64 ((fW .u64 m).tmod 4))),(11,w32 j),(12,.i h),(13,.ptr 0 7 0)]) K (oDr 46 56 a8 .nil))))) ?_
      refine oK [0,5,11,12,170] [(0,w4 o),(5,.i (fW .i64 ((fW .u64 m).tmod 4))),(11,w32 j),(12,.i h),(170,.bool true)] ?_
      refine qA9 [] [⟨e32 g,7,false⟩] Kr rfl Kr trivial ?_
      exact J (true,h)
     ·refine qA7 (λa B=>?_)
      refine qCo (λN=>?_) (λN=>?_)
      ·let D:Env:=[(118,.bool (!(eqL g.f1 [102]))),(117,.bool (!(eqL g.f1 [102]))),(116,.str g.f1),(115,.ptr 0 7 1),(0,w4 o),(5,.i (fW .i64 ((fW .u64 m).tmod 4))),(11,w32 j),(12,.i h),(13,.ptr 0 7 0)]
       let G:Env:=[(124,.bool (!decide ((g.f2.n:Int)=3))),(123,.bool (!decide ((g.f2.n:Int)=3))),(122,.bool (!decide ((g.f2.n:Int)=3))),(121,.i (g.f2.n:Int)),(120,q32 g.f2),(119,.ptr 0 7 2),(118,.bool false),(117,.bool false),(116,.str g.f1),(115,.ptr 0 7 1),(0,w4 o),(5,.i (fW .i64 ((fW .u64 m).tmod 4))),(11,w32 j),(12,.i h),(13,.ptr 0 7 0)]
       let r:Env:=[(126,q32 g.f2),(125,.ptr 0 7 2),(124,.bool false),(123,.bool false),(122,.bool false),(121,.i (g.f2.n:Int)),(120,q32 g.f2),(119,.ptr 0 7 2),(118,.bool false),(117,.bool false),(116,.str g.f1),(115,.ptr 0 7 1),(0,w4 o),(5,.i (fW .i64 ((fW .u64 m).tmod 4))),(11,w32 j),(12,.i h),(13,.ptr 0 7 0)]
       let M:Env:=((134,.bool (!decide ((a.f2.n:Int)=fW .i64 ((fW .u64 m).tmod 4))))::(133,.bool (!decide ((a.f2.n:Int)=fW .i64 ((fW .u64 m).tmod 4))))::(132,.bool (!decide ((a.f2.n:Int)=fW .i64 ((fW .u64 m).tmod 4))))::(131,.i (fW .i64 ((fW .u64 m).tmod 4)))::(130,.i (a.f2.n:Int))::(129,q32 a.f2)::(128,.vptr [q32 a.f2,.bool a.f3,.bool a.f4,w9 a.f5,w9 a.f6])::(127,.vptr [.i a.f0,.str a.f1,q32 a.f2,.bool a.f3,.bool a.f4,w9 a.f5,w9 a.f6])::r)
       let a9:Env:=[(170,.bool true),(169,.tuple []),(168,.tuple []),(167,.bool true),(166,.bool true),(165,.tuple []),(164,.tuple []),(163,.tuple []),(162,.tuple []),(161,.tuple []),(160,.tuple []),(159,.tuple []),(158,.tuple []),(157,.tuple []),(156,.tuple []),(155,.tuple []),(154,.tuple []),(153,.tuple []),(152,.bool true),(151,.bool true),(150,.tuple []),(149,.tuple []),(148,.tuple []),(147,.tuple []),(146,.tuple []),(145,.tuple []),(144,.tuple []),(143,.bool true),(142,.bool true),(141,.tuple []),(140,.tuple []),(139,.tuple []),(138,.tuple []),(137,.tuple []),(136,.tuple []),(135,.tuple []),(134,.bool true),(133,.bool true),(132,.bool true),(131,.i (fW .i64 ((fW .u64 m).tmod 4))),(130,.i (a.f2.n:Int)),(129,q32 a.f2),(128,.vptr [q32 a.f2,.bool a.f3,.bool a.f4,w9 a.f5,w9 a.f6]),(127,.vptr [.i a.f0,.str a.f1,q32 a.f2,.bool a.f3,.bool a.f4,w9 a.f5,w9 a.f6]),(126,q32 g.f2),(125,.ptr 0 7 2),(124,.bool false),(123,.bool false),(122,.bool false),(121,.i (g.f2.n:Int)),(120,q32 g.f2),(119,.ptr 0 7 2),(118,.bool false),(117,.bool false),(116,.str g.f1),(115,.ptr 0 7 1),(0,w4 o),(5,.i (fW .i64 ((fW .u64 m).tmod 4))),(11,w32 j),(12,.i h),(13,.ptr 0 7 0)]
       refine oD (H':=(mkH [⟨e32 g,7,false⟩])) (nav [0] g4p38) a9 [] g4d0 (oDr 4 4 D (oDe (λz=>[(118,.bool z),(117,.bool z),(116,.str g.f1),(115,.ptr 0 7 1),(0,w4 o),(5,.i (fW .i64 ((fW .u64 m).tmod 4))),(11,w32 j),(12,.i h),(13,.ptr 0 7 0)]) F (oDr 6 10 G (oDe (λz=>[(124,.bool z),(123,.bool z),(122,.bool z),(121,.i (g.f2.n:Int)),(120,q32 g.f2),(119,.ptr 0 7 2),(118,.bool false),(117,.bool false),(116,.str g.f1),(115,.ptr 0 7 1),(0,w4 o),(5,.i (fW .i64 ((fW .u64 m).tmod 4))),(11,w32 j),(12,.i h),(13,.ptr 0 7 0)]) K (oDr 2 12 r (qAe (l':=(opsAt g4p38).toList.drop 13) (eE:=((127,.vptr [.i a.f0,.str a.f1,q32 a.f2,.bool a.f3,.bool a.f4,w9 a.f5,w9 a.f6])::r)) (hs:=[]) (x:=a) (λ(a:S31)=>(.vptr [.i a.f0,.str a.f1,q32 a.f2,.bool a.f3,.bool a.f4,w9 a.f5,w9 a.f6],(mkH [⟨e32 g,7,false⟩]))) (vidxR (sz:=7) qBi B Kr) Kr (oDr 7 20 M (oDe (λz=>[(134,.bool z),(133,.bool z),(132,.bool z),(131,.i (fW .i64 ((fW .u64 m).tmod 4))),(130,.i (a.f2.n:Int)),(129,q32 a.f2),(128,.vptr [q32 a.f2,.bool a.f3,.bool a.f4,w9 a.f5,w9 a.f6]),(127,.vptr [.i a.f0,.str a.f1,q32 a.f2,.bool a.f3,.bool a.f4,w9 a.f5,w9 a.f6]),(126,q32 g.f2),(125,.ptr 0 7 2),(124,.bool false),(123,.bool false),(122,.bool false),(121,.i (g.f2.n:Int)),(120,q32 g.f2),(119,.ptr 0 7 2),(118,.bool false),(117,.bool false),(116,.str g.f1),(115,.ptr 0 7 1),(0,w4 o),(5,.i (fW .i64 ((fW .u64 m).tmod 4))),(11,w32 j),(12,.i h),(13,.ptr 0 7 0)]) N (oDr 36 56 a9 .nil))))))))) ?_
       refine oK [0,5,11,12,170] [(0,w4 o),(5,.i (fW .i64 ((fW .u64 m).tmod 4))),(11,w32 j),(12,.i h),(170,.bool true)] ?_
       refine qA9 [] [⟨e32 g,7,false⟩] Kr rfl Kr trivial ?_
       exact J (true,h)
      ·refine qA7 (λb E=>?_)
       refine qCo (λS=>?_) (λS=>?_)
       ·let D:Env:=[(118,.bool (!(eqL g.f1 [102]))),(117,.bool (!(eqL g.f1 [102]))),(116,.str g.f1),(115,.ptr 0 7 1),(0,w4 o),(5,.i (fW .i64 ((fW .u64 m).tmod 4))),(11,w32 j),(12,.i h),(13,.ptr 0 7 0)]
        let G:Env:=[(124,.bool (!decide ((g.f2.n:Int)=3))),(123,.bool (!decide ((g.f2.n:Int)=3))),(122,.bool (!decide ((g.f2.n:Int)=3))),(121,.i (g.f2.n:Int)),(120,q32 g.f2),(119,.ptr 0 7 2),(118,.bool false),(117,.bool false),(116,.str g.f1),(115,.ptr 0 7 1),(0,w4 o),(5,.i (fW .i64 ((fW .u64 m).tmod 4))),(11,w32 j),(12,.i h),(13,.ptr 0 7 0)]
        let r:Env:=[(126,q32 g.f2),(125,.ptr 0 7 2),(124,.bool false),(123,.bool false),(122,.bool false),(121,.i (g.f2.n:Int)),(120,q32 g.f2),(119,.ptr 0 7 2),(118,.bool false),(117,.bool false),(116,.str g.f1),(115,.ptr 0 7 1),(0,w4 o),(5,.i (fW .i64 ((fW .u64 m).tmod 4))),(11,w32 j),(12,.i h),(13,.ptr 0 7 0)]
        let M:Env:=((134,.bool (!decide ((a.f2.n:Int)=fW .i64 ((fW .u64 m).tmod 4))))::(133,.bool (!decide ((a.f2.n:Int)=fW .i64 ((fW .u64 m).tmod 4))))::(132,.bool (!decide ((a.f2.n:Int)=fW .i64 ((fW .u64 m).tmod 4))))::(131,.i (fW .i64 ((fW .u64 m).tmod 4)))::(130,.i (a.f2.n:Int))::(129,q32 a.f2)::(128,.vptr [q32 a.f2,.bool a.f3,.bool a.f4,w9 a.f5,w9 a.f6])::(127,.vptr [.i a.f0,.str a.f1,q32 a.f2,.bool a.f3,.bool a.f4,w9 a.f5,w9 a.f6])::r)
        let u:Env:=[(136,q32 g.f2),(135,.ptr 0 7 2),(134,.bool false),(133,.bool false),(132,.bool false),(131,.i (fW .i64 ((fW .u64 m).tmod 4))),(130,.i (a.f2.n:Int)),(129,q32 a.f2),(128,.vptr [q32 a.f2,.bool a.f3,.bool a.f4,w9 a.f5,w9 a.f6]),(127,.vptr [.i a.f0,.str a.f1,q32 a.f2,.bool a.f3,.bool a.f4,w9 a.f5,w9 a.f6]),(126,q32 g.f2),(125,.ptr 0 7 2),(124,.bool false),(123,.bool false),(122,.bool false),(121,.i (g.f2.n:Int)),(120,q32 g.f2),(119,.ptr 0 7 2),(118,.bool false),(117,.bool false),(116,.str g.f1),(115,.ptr 0 7 1),(0,w4 o),(5,.i (fW .i64 ((fW .u64 m).tmod 4))),(11,w32 j),(12,.i h),(13,.ptr 0 7 0)]
        let T:Env:=((143,.bool (!decide ((b.f2.n:Int)=1)))::(142,.bool (!decide ((b.f2.n:Int)=1)))::(141,.bool (!decide ((b.f2.n:Int)=1)))::(140,.i (b.f2.n:Int))::(139,q32 b.f2)::(138,.vptr [q32 b.f2,.bool b.f3,.bool b.f4,w9 b.f5,w9 b.f6])::(137,.vptr [.i b.f0,.str b.f1,q32 b.f2,.bool b.f3,.bool b.f4,w9 b.f5,w9 b.f6])::u)
        let b1:Env:=[(170,.bool true),(169,.tuple []),(168,.tuple []),(167,.bool true),(166,.bool true),(165,.tuple []),(164,.tuple []),(163,.tuple []),(162,.tuple []),(161,.tuple []),(160,.tuple []),(159,.tuple []),(158,.tuple []),(157,.tuple []),(156,.tuple []),(155,.tuple []),(154,.tuple []),(153,.tuple []),(152,.bool true),(151,.bool true),(150,.tuple []),(149,.tuple []),(148,.tuple []),(147,.tuple []),(146,.tuple []),(145,.tuple []),(144,.tuple []),(143,.bool true),(142,.bool true),(141,.bool true),(140,.i (b.f2.n:Int)),(139,q32 b.f2),(138,.vptr [q32 b.f2,.bool b.f3,.bool b.f4,w9 b.f5,w9 b.f6]),(137,.vptr [.i b.f0,.str b.f1,q32 b.f2,.bool b.f3,.bool b.f4,w9 b.f5,w9 b.f6]),(136,q32 g.f2),(135,.ptr 0 7 2),(134,.bool false),(133,.bool false),(132,.bool false),(131,.i (fW .i64 ((fW .u64 m).tmod 4))),(130,.i (a.f2.n:Int)),(129,q32 a.f2),(128,.vptr [q32 a.f2,.bool a.f3,.bool a.f4,w9 a.f5,w9 a.f6]),(127,.vptr [.i a.f0,.str a.f1,q32 a.f2,.bool a.f3,.bool a.f4,w9 a.f5,w9 a.f6]),(126,q32 g.f2),(125,.ptr 0 7 2),(124,.bool false),(123,.bool false),(122,.bool false),(121,.i (g.f2.n:Int)),(120,q32 g.f2),(119,.ptr 0 7 2),(118,.bool false),(117,.bool false),(116,.str g.f1),(115,.ptr 0 7 1),(0,w4 o),(5,.i (fW .i64 ((fW .u64 m).tmod 4))),(11,w32 j),(12,.i h),(13,.ptr 0 7 0)]
        refine oD (H':=(mkH [⟨e32 g,7,false⟩])) (nav [0] g4p38) b1 [] g4d0 (oDr 4 4 D (oDe (λz=>[(118,.bool z),(117,.bool z),(116,.str g.f1),(115,.ptr 0 7 1),(0,w4 o),(5,.i (fW .i64 ((fW .u64 m).tmod 4))),(11,w32 j),(12,.i h),(13,.ptr 0 7 0)]) F (oDr 6 10 G (oDe (λz=>[(124,.bool z),(123,.bool z),(122,.bool z),(121,.i (g.f2.n:Int)),(120,q32 g.f2),(119,.ptr 0 7 2),(118,.bool false),(117,.bool false),(116,.str g.f1),(115,.ptr 0 7 1),(0,w4 o),(5,.i (fW .i64 ((fW .u64 m).tmod 4))),(11,w32 j),(12,.i h),(13,.ptr 0 7 0)]) K (oDr 2 12 r (qAe (l':=(opsAt g4p38).toList.drop 13) (eE:=((127,.vptr [.i a.f0,.str a.f1,q32 a.f2,.bool a.f3,.bool a.f4,w9 a.f5,w9 a.f6])::r)) (hs:=[]) (x:=a) (λ(a:S31)=>(.vptr [.i a.f0,.str a.f1,q32 a.f2,.bool a.f3,.bool a.f4,w9 a.f5,w9 a.f6],(mkH [⟨e32 g,7,false⟩]))) (vidxR (sz:=7) qBi B Kr) Kr (oDr 7 20 M (oDe (λz=>[(134,.bool z),(133,.bool z),(132,.bool z),(131,.i (fW .i64 ((fW .u64 m).tmod 4))),(130,.i (a.f2.n:Int)),(129,q32 a.f2),(128,.vptr [q32 a.f2,.bool a.f3,.bool a.f4,w9 a.f5,w9 a.f6]),(127,.vptr [.i a.f0,.str a.f1,q32 a.f2,.bool a.f3,.bool a.f4,w9 a.f5,w9 a.f6]),(126,q32 g.f2),(125,.ptr 0 7 2),(124,.bool false),(123,.bool false),(122,.bool false),(121,.i (g.f2.n:Int)),(120,q32 g.f2),(119,.ptr 0 7 2),(118,.bool false),(117,.bool false),(116,.str g.f1),(115,.ptr 0 7 1),(0,w4 o),(5,.i (fW .i64 ((fW .u64 m).tmod 4))),(11,w32 j),(12,.i h),(13,.ptr 0 7 0)]) N (oDr 2 22 u (qAe (l':=(opsAt g4p38).toList.drop 23) (eE:=((137,.vptr [.i b.f0,.str b.f1,q32 b.f2,.bool b.f3,.bool b.f4,w9 b.f5,w9 b.f6])::u)) (hs:=[]) (x:=b) (λ(b:S31)=>(.vptr [.i b.f0,.str b.f1,q32 b.f2,.bool b.f3,.bool b.f4,w9 b.f5,w9 b.f6],(mkH [⟨e32 g,7,false⟩]))) (vidxR (sz:=7) qBi E Kr) Kr (oDr 6 29 T (oDe (λz=>[(143,.bool z),(142,.bool z),(141,.bool z),(140,.i (b.f2.n:Int)),(139,q32 b.f2),(138,.vptr [q32 b.f2,.bool b.f3,.bool b.f4,w9 b.f5,w9 b.f6]),(137,.vptr [.i b.f0,.str b.f1,q32 b.f2,.bool b.f3,.bool b.f4,w9 b.f5,w9 b.f6]),(136,q32 g.f2),(135,.ptr 0 7 2),(134,.bool false),(133,.bool false),(132,.bool false),(131,.i (fW .i64 ((fW .u64 m).tmod 4))),(130,.i (a.f2.n:Int)),(129,q32 a.f2),(128,.vptr [q32 a.f2,.bool a.f3,.bool a.f4,w9 a.f5,w9 a.f6]),(127,.vptr [.i a.f0,.str a.f1,q32 a.f2,.bool a.f3,.bool a.f4,w9 a.f5,w9 a.f6]),(126,q32 g.f2),(125,.ptr 0 7 2),(124,.bool false),(123,.bool false),(122,.bool false),(121,.i (g.f2.n:Int)),(120,q32 g.f2),(119,.ptr 0 7 2),(118,.bool false),(117,.bool false),(116,.str g.f1),(115,.ptr 0 7 1),(0,w4 o),(5,.i (fW .i64 ((fW .u64 m).tmod 4))),(11,w32 j),(12,.i h),(13,.ptr 0 7 0)]) S (oDr 27 56 b1 .nil))))))))))))) ?_
        refine oK [0,5,11,12,170] [(0,w4 o),(5,.i (fW .i64 ((fW .u64 m).tmod 4))),(11,w32 j),(12,.i h),(170,.bool true)] ?_
        refine qA9 [] [⟨e32 g,7,false⟩] Kr rfl Kr trivial ?_
        exact J (true,h)
       ·refine qA7 (λc L=>?_)
        refine qCo (λV=>?_) (λV=>?_)
        ·let D:Env:=[(118,.bool (!(eqL g.f1 [102]))),(117,.bool (!(eqL g.f1 [102]))),(116,.str g.f1),(115,.ptr 0 7 1),(0,w4 o),(5,.i (fW .i64 ((fW .u64 m).tmod 4))),(11,w32 j),(12,.i h),(13,.ptr 0 7 0)]
         let G:Env:=[(124,.bool (!decide ((g.f2.n:Int)=3))),(123,.bool (!decide ((g.f2.n:Int)=3))),(122,.bool (!decide ((g.f2.n:Int)=3))),(121,.i (g.f2.n:Int)),(120,q32 g.f2),(119,.ptr 0 7 2),(118,.bool false),(117,.bool false),(116,.str g.f1),(115,.ptr 0 7 1),(0,w4 o),(5,.i (fW .i64 ((fW .u64 m).tmod 4))),(11,w32 j),(12,.i h),(13,.ptr 0 7 0)]
         let r:Env:=[(126,q32 g.f2),(125,.ptr 0 7 2),(124,.bool false),(123,.bool false),(122,.bool false),(121,.i (g.f2.n:Int)),(120,q32 g.f2),(119,.ptr 0 7 2),(118,.bool false),(117,.bool false),(116,.str g.f1),(115,.ptr 0 7 1),(0,w4 o),(5,.i (fW .i64 ((fW .u64 m).tmod 4))),(11,w32 j),(12,.i h),(13,.ptr 0 7 0)]
         let M:Env:=((134,.bool (!decide ((a.f2.n:Int)=fW .i64 ((fW .u64 m).tmod 4))))::(133,.bool (!decide ((a.f2.n:Int)=fW .i64 ((fW .u64 m).tmod 4))))::(132,.bool (!decide ((a.f2.n:Int)=fW .i64 ((fW .u64 m).tmod 4))))::(131,.i (fW .i64 ((fW .u64 m).tmod 4)))::(130,.i (a.f2.n:Int))::(129,q32 a.f2)::(128,.vptr [q32 a.f2,.bool a.f3,.bool a.f4,w9 a.f5,w9 a.f6])::(127,.vptr [.i a.f0,.str a.f1,q32 a.f2,.bool a.f3,.bool a.f4,w9 a.f5,w9 a.f6])::r)
         let u:Env:=[(136,q32 g.f2),(135,.ptr 0 7 2),(134,.bool false),(133,.bool false),(132,.bool false),(131,.i (fW .i64 ((fW .u64 m).tmod 4))),(130,.i (a.f2.n:Int)),(129,q32 a.f2),(128,.vptr [q32 a.f2,.bool a.f3,.bool a.f4,w9 a.f5,w9 a.f6]),(127,.vptr [.i a.f0,.str a.f1,q32 a.f2,.bool a.f3,.bool a.f4,w9 a.f5,w9 a.f6]),(126,q32 g.f2),(125,.ptr 0 7 2),(124,.bool false),(123,.bool false),(122,.bool false),(121,.i (g.f2.n:Int)),(120,q32 g.f2),(119,.ptr 0 7 2),(118,.bool false),(117,.bool false),(116,.str g.f1),(115,.ptr 0 7 1),(0,w4 o),(5,.i (fW .i64 ((fW .u64 m).tmod 4))),(11,w32 j),(12,.i h),(13,.ptr 0 7 0)]
         let T:Env:=((143,.bool (!decide ((b.f2.n:Int)=1)))::(142,.bool (!decide ((b.f2.n:Int)=1)))::(141,.bool (!decide ((b.f2.n:Int)=1)))::(140,.i (b.f2.n:Int))::(139,q32 b.f2)::(138,.vptr [q32 b.f2,.bool b.f3,.bool b.f4,w9 b.f5,w9 b.f6])::(137,.vptr [.i b.f0,.str b.f1,q32 b.f2,.bool b.f3,.bool b.f4,w9 b.f5,w9 b.f6])::u)
         let C:Env:=[(145,q32 g.f2),(144,.ptr 0 7 2),(143,.bool false),(142,.bool false),(141,.bool false),(140,.i (b.f2.n:Int)),(139,q32 b.f2),(138,.vptr [q32 b.f2,.bool b.f3,.bool b.f4,w9 b.f5,w9 b.f6]),(137,.vptr [.i b.f0,.str b.f1,q32 b.f2,.bool b.f3,.bool b.f4,w9 b.f5,w9 b.f6]),(136,q32 g.f2),(135,.ptr 0 7 2),(134,.bool false),(133,.bool false),(132,.bool false),(131,.i (fW .i64 ((fW .u64 m).tmod 4))),(130,.i (a.f2.n:Int)),(129,q32 a.f2),(128,.vptr [q32 a.f2,.bool a.f3,.bool a.f4,w9 a.f5,w9 a.f6]),(127,.vptr [.i a.f0,.str a.f1,q32 a.f2,.bool a.f3,.bool a.f4,w9 a.f5,w9 a.f6]),(126,q32 g.f2),(125,.ptr 0 7 2),(124,.bool false),(123,.bool false),(122,.bool false),(121,.i (g.f2.n:Int)),(120,q32 g.f2),(119,.ptr 0 7 2),(118,.bool false),(117,.bool false),(116,.str g.f1),(115,.ptr 0 7 1),(0,w4 o),(5,.i (fW .i64 ((fW .u64 m).tmod 4))),(11,w32 j),(12,.i h),(13,.ptr 0 7 0)]
         let W:Env:=((152,.bool (!decide ((c.f2.n:Int)=2)))::(151,.bool (!decide ((c.f2.n:Int)=2)))::(150,.bool (!decide ((c.f2.n:Int)=2)))::(149,.i (c.f2.n:Int))::(148,q32 c.f2)::(147,.vptr [q32 c.f2,.bool c.f3,.bool c.f4,w9 c.f5,w9 c.f6])::(146,.vptr [.i c.f0,.str c.f1,q32 c.f2,.bool c.f3,.bool c.f4,w9 c.f5,w9 c.f6])::C)
         let b2:Env:=[(170,.bool true),(169,.tuple []),(168,.tuple []),(167,.bool true),(166,.bool true),(165,.tuple []),(164,.tuple []),(163,.tuple []),(162,.tuple []),(161,.tuple []),(160,.tuple []),(159,.tuple []),(158,.tuple []),(157,.tuple []),(156,.tuple []),(155,.tuple []),(154,.tuple []),(153,.tuple []),(152,.bool true),(151,.bool true),(150,.bool true),(149,.i (c.f2.n:Int)),(148,q32 c.f2),(147,.vptr [q32 c.f2,.bool c.f3,.bool c.f4,w9 c.f5,w9 c.f6]),(146,.vptr [.i c.f0,.str c.f1,q32 c.f2,.bool c.f3,.bool c.f4,w9 c.f5,w9 c.f6]),(145,q32 g.f2),(144,.ptr 0 7 2),(143,.bool false),(142,.bool false),(141,.bool false),(140,.i (b.f2.n:Int)),(139,q32 b.f2),(138,.vptr [q32 b.f2,.bool b.f3,.bool b.f4,w9 b.f5,w9 b.f6]),(137,.vptr [.i b.f0,.str b.f1,q32 b.f2,.bool b.f3,.bool b.f4,w9 b.f5,w9 b.f6]),(136,q32 g.f2),(135,.ptr 0 7 2),(134,.bool false),(133,.bool false),(132,.bool false),(131,.i (fW .i64 ((fW .u64 m).tmod 4))),(130,.i (a.f2.n:Int)),(129,q32 a.f2),(128,.vptr [q32 a.f2,.bool a.f3,.bool a.f4,w9 a.f5,w9 a.f6]),(127,.vptr [.i a.f0,.str a.f1,q32 a.f2,.bool a.f3,.bool a.f4,w9 a.f5,w9 a.f6]),(126,q32 g.f2),(125,.ptr 0 7 2),(124,.bool false),(123,.bool false),(122,.bool false),(121,.i (g.f2.n:Int)),(120,q32 g.f2),(119,.ptr 0 7 2),(118,.bool false),(117,.bool false),(116,.str g.f1),(115,.ptr 0 7 1),(0,w4 o),(5,.i (fW .i64 ((fW .u64 m).tmod 4))),(11,w32 j),(12,.i h),(13,.ptr 0 7 0)]
         refine oD (H':=(mkH [⟨e32 g,7,false⟩])) (nav [0] g4p38) b2 [] g4d0 (oDr 4 4 D (oDe (λz=>[(118,.bool z),(117,.bool z),(116,.str g.f1),(115,.ptr 0 7 1),(0,w4 o),(5,.i (fW .i64 ((fW .u64 m).tmod 4))),(11,w32 j),(12,.i h),(13,.ptr 0 7 0)]) F (oDr 6 10 G (oDe (λz=>[(124,.bool z),(123,.bool z),(122,.bool z),(121,.i (g.f2.n:Int)),(120,q32 g.f2),(119,.ptr 0 7 2),(118,.bool false),(117,.bool false),(116,.str g.f1),(115,.ptr 0 7 1),(0,w4 o),(5,.i (fW .i64 ((fW .u64 m).tmod 4))),(11,w32 j),(12,.i h),(13,.ptr 0 7 0)]) K (oDr 2 12 r (qAe (l':=(opsAt g4p38).toList.drop 13) (eE:=((127,.vptr [.i a.f0,.str a.f1,q32 a.f2,.bool a.f3,.bool a.f4,w9 a.f5,w9 a.f6])::r)) (hs:=[]) (x:=a) (λ(a:S31)=>(.vptr [.i a.f0,.str a.f1,q32 a.f2,.bool a.f3,.bool a.f4,w9 a.f5,w9 a.f6],(mkH [⟨e32 g,7,false⟩]))) (vidxR (sz:=7) qBi B Kr) Kr (oDr 7 20 M (oDe (λz=>[(134,.bool z),(133,.bool z),(132,.bool z),(131,.i (fW .i64 ((fW .u64 m).tmod 4))),(130,.i (a.f2.n:Int)),(129,q32 a.f2),(128,.vptr [q32 a.f2,.bool a.f3,.bool a.f4,w9 a.f5,w9 a.f6]),(127,.vptr [.i a.f0,.str a.f1,q32 a.f2,.bool a.f3,.bool a.f4,w9 a.f5,w9 a.f6]),(126,q32 g.f2),(125,.ptr 0 7 2),(124,.bool false),(123,.bool false),(122,.bool false),(121,.i (g.f2.n:Int)),(120,q32 g.f2),(119,.ptr 0 7 2),(118,.bool false),(117,.bool false),(116,.str g.f1),(115,.ptr 0 7 1),(0,w4 o),(5,.i (fW .i64 ((fW .u64 m).tmod 4))),(11,w32 j),(12,.i h),(13,.ptr 0 7 0)]) N (oDr 2 22 u (qAe (l':=(opsAt g4p38).toList.drop 23) (eE:=((137,.vptr [.i b.f0,.str b.f1,q32 b.f2,.bool b.f3,.bool b.f4,w9 b.f5,w9 b.f6])::u)) (hs:=[]) (x:=b) (λ(b:S31)=>(.vptr [.i b.f0,.str b.f1,q32 b.f2,.bool b.f3,.bool b.f4,w9 b.f5,w9 b.f6],(mkH [⟨e32 g,7,false⟩]))) (vidxR (sz:=7) qBi E Kr) Kr (oDr 6 29 T (oDe (λz=>[(143,.bool z),(142,.bool z),(141,.bool z),(140,.i (b.f2.n:Int)),(139,q32 b.f2),(138,.vptr [q32 b.f2,.bool b.f3,.bool b.f4,w9 b.f5,w9 b.f6]),(137,.vptr [.i b.f0,.str b.f1,q32 b.f2,.bool b.f3,.bool b.f4,w9 b.f5,w9 b.f6]),(136,q32 g.f2),(135,.ptr 0 7 2),(134,.bool false),(133,.bool false),(132,.bool false),(131,.i (fW .i64 ((fW .u64 m).tmod 4))),(130,.i (a.f2.n:Int)),(129,q32 a.f2),(128,.vptr [q32 a.f2,.bool a.f3,.bool a.f4,w9 a.f5,w9 a.f6]),(127,.vptr [.i a.f0,.str a.f1,q32 a.f2,.bool a.f3,.bool a.f4,w9 a.f5,w9 a.f6]),(126,q32 g.f2),(125,.ptr 0 7 2),(124,.bool false),(123,.bool false),(122,.bool false),(121,.i (g.f2.n:Int)),(120,q32 g.f2),(119,.ptr 0 7 2),(118,.bool false),(117,.bool false),(116,.str g.f1),(115,.ptr 0 7 1),(0,w4 o),(5,.i (fW .i64 ((fW .u64 m).tmod 4))),(11,w32 j),(12,.i h),(13,.ptr 0 7 0)]) S (oDr 2 31 C (qAe (l':=(opsAt g4p38).toList.drop 32) (eE:=((146,.vptr [.i c.f0,.str c.f1,q32 c.f2,.bool c.f3,.bool c.f4,w9 c.f5,w9 c.f6])::C)) (hs:=[]) (x:=c) (λ(c:S31)=>(.vptr [.i c.f0,.str c.f1,q32 c.f2,.bool c.f3,.bool c.f4,w9 c.f5,w9 c.f6],(mkH [⟨e32 g,7,false⟩]))) (vidxR (sz:=7) qBi L Kr) Kr (oDr 6 38 W (oDe (λz=>[(152,.bool z),(151,.bool z),(150,.bool z),(149,.i (c.f2.n:Int)),(148,q32 c.f2),(147,.vptr [q32 c.f2,.bool c.f3,.bool c.f4,w9 c.f5,w9 c.f6]),(146,.vptr [.i c.f0,.str c.f1,q32 c.f2,.bool c.f3,.bool c.f4,w9 c.f5,w9 c.f6]),(145,q32 g.f2),(144,.ptr 0 7 2),(143,.bool false),(142,.bool false),(141,.bool false),(140,.i (b.f2.n:Int)),(139,q32 b.f2),(138,.vptr [q32 b.f2,.bool b.f3,.bool b.f4,w9 b.f5,w9 b.f6]),(137,.vptr [.i b.f0,.str b.f1,q32 b.f2,.bool b.f3,.bool b.f4,w9 b.f5,w9 b.f6]),(136,q32 g.f2),(135,.ptr 0 7 2),(134,.bool false),(133,.bool false),(132,.bool false),(131,.i (fW .i64 ((fW .u64 m).tmod 4))),(130,.i (a.f2.n:Int)),(129,q32 a.f2),(128,.vptr [q32 a.f2,.bool a.f3,.bool a.f4,w9 a.f5,w9 a.f6]),(127,.vptr [.i a.f0,.str a.f1,q32 a.f2,.bool a.f3,.bool a.f4,w9 a.f5,w9 a.f6]),(126,q32 g.f2),(125,.ptr 0 7 2),(124,.bool false),(123,.bool false),(122,.bool false),(121,.i (g.f2.n:Int)),(120,q32 g.f2),(119,.ptr 0 7 2),(118,.bool false),(117,.bool false),(116,.str g.f1),(115,.ptr 0 7 1),(0,w4 o),(5,.i (fW .i64 ((fW .u64 m).tmod 4))),(11,w32 j),(12,.i h),(13,.ptr 0 7 0)]) V (oDr 18 56 b2 .nil))))))))))))))))) ?_
         refine oK [0,5,11,12,170] [(0,w4 o),(5,.i (fW .i64 ((fW .u64 m).tmod 4))),(11,w32 j),(12,.i h),(170,.bool true)] ?_
         refine qA9 [] [⟨e32 g,7,false⟩] Kr rfl Kr trivial ?_
         exact J (true,h)
        ·refine qA7 (λl O=>?_)
         refine qCo (λY=>?_) (λY=>?_)
         ·refine qCo (λU=>?_) (λU=>?_)
          ·let D:Env:=[(118,.bool (!(eqL g.f1 [102]))),(117,.bool (!(eqL g.f1 [102]))),(116,.str g.f1),(115,.ptr 0 7 1),(0,w4 o),(5,.i (fW .i64 ((fW .u64 m).tmod 4))),(11,w32 j),(12,.i h),(13,.ptr 0 7 0)]
           let G:Env:=[(124,.bool (!decide ((g.f2.n:Int)=3))),(123,.bool (!decide ((g.f2.n:Int)=3))),(122,.bool (!decide ((g.f2.n:Int)=3))),(121,.i (g.f2.n:Int)),(120,q32 g.f2),(119,.ptr 0 7 2),(118,.bool false),(117,.bool false),(116,.str g.f1),(115,.ptr 0 7 1),(0,w4 o),(5,.i (fW .i64 ((fW .u64 m).tmod 4))),(11,w32 j),(12,.i h),(13,.ptr 0 7 0)]
           let r:Env:=[(126,q32 g.f2),(125,.ptr 0 7 2),(124,.bool false),(123,.bool false),(122,.bool false),(121,.i (g.f2.n:Int)),(120,q32 g.f2),(119,.ptr 0 7 2),(118,.bool false),(117,.bool false),(116,.str g.f1),(115,.ptr 0 7 1),(0,w4 o),(5,.i (fW .i64 ((fW .u64 m).tmod 4))),(11,w32 j),(12,.i h),(13,.ptr 0 7 0)]
           let M:Env:=((134,.bool (!decide ((a.f2.n:Int)=fW .i64 ((fW .u64 m).tmod 4))))::(133,.bool (!decide ((a.f2.n:Int)=fW .i64 ((fW .u64 m).tmod 4))))::(132,.bool (!decide ((a.f2.n:Int)=fW .i64 ((fW .u64 m).tmod 4))))::(131,.i (fW .i64 ((fW .u64 m).tmod 4)))::(130,.i (a.f2.n:Int))::(129,q32 a.f2)::(128,.vptr [q32 a.f2,.bool a.f3,.bool a.f4,w9 a.f5,w9 a.f6])::(127,.vptr [.i a.f0,.str a.f1,q32 a.f2,.bool a.f3,.bool a.f4,w9 a.f5,w9 a.f6])::r)
           let u:Env:=[(136,q32 g.f2),(135,.ptr 0 7 2),(134,.bool false),(133,.bool false),(132,.bool false),(131,.i (fW .i64 ((fW .u64 m).tmod 4))),(130,.i (a.f2.n:Int)),(129,q32 a.f2),(128,.vptr [q32 a.f2,.bool a.f3,.bool a.f4,w9 a.f5,w9 a.f6]),(127,.vptr [.i a.f0,.str a.f1,q32 a.f2,.bool a.f3,.bool a.f4,w9 a.f5,w9 a.f6]),(126,q32 g.f2),(125,.ptr 0 7 2),(124,.bool false),(123,.bool false),(122,.bool false),(121,.i (g.f2.n:Int)),(120,q32 g.f2),(119,.ptr 0 7 2),(118,.bool false),(117,.bool false),(116,.str g.f1),(115,.ptr 0 7 1),(0,w4 o),(5,.i (fW .i64 ((fW .u64 m).tmod 4))),(11,w32 j),(12,.i h),(13,.ptr 0 7 0)]
           let T:Env:=((143,.bool (!decide ((b.f2.n:Int)=1)))::(142,.bool (!decide ((b.f2.n:Int)=1)))::(141,.bool (!decide ((b.f2.n:Int)=1)))::(140,.i (b.f2.n:Int))::(139,q32 b.f2)::(138,.vptr [q32 b.f2,.bool b.f3,.bool b.f4,w9 b.f5,w9 b.f6])::(137,.vptr [.i b.f0,.str b.f1,q32 b.f2,.bool b.f3,.bool b.f4,w9 b.f5,w9 b.f6])::u)
           let C:Env:=[(145,q32 g.f2),(144,.ptr 0 7 2),(143,.bool false),(142,.bool false),(141,.bool false),(140,.i (b.f2.n:Int)),(139,q32 b.f2),(138,.vptr [q32 b.f2,.bool b.f3,.bool b.f4,w9 b.f5,w9 b.f6]),(137,.vptr [.i b.f0,.str b.f1,q32 b.f2,.bool b.f3,.bool b.f4,w9 b.f5,w9 b.f6]),(136,q32 g.f2),(135,.ptr 0 7 2),(134,.bool false),(133,.bool false),(132,.bool false),(131,.i (fW .i64 ((fW .u64 m).tmod 4))),(130,.i (a.f2.n:Int)),(129,q32 a.f2),(128,.vptr [q32 a.f2,.bool a.f3,.bool a.f4,w9 a.f5,w9 a.f6]),(127,.vptr [.i a.f0,.str a.f1,q32 a.f2,.bool a.f3,.bool a.f4,w9 a.f5,w9 a.f6]),(126,q32 g.f2),(125,.ptr 0 7 2),(124,.bool false),(123,.bool false),(122,.bool false),(121,.i (g.f2.n:Int)),(120,q32 g.f2),(119,.ptr 0 7 2),(118,.bool false),(117,.bool false),(116,.str g.f1),(115,.ptr 0 7 1),(0,w4 o),(5,.i (fW .i64 ((fW .u64 m).tmod 4))),(11,w32 j),(12,.i h),(13,.ptr 0 7 0)]
           let W:Env:=((152,.bool (!decide ((c.f2.n:Int)=2)))::(151,.bool (!decide ((c.f2.n:Int)=2)))::(150,.bool (!decide ((c.f2.n:Int)=2)))::(149,.i (c.f2.n:Int))::(148,q32 c.f2)::(147,.vptr [q32 c.f2,.bool c.f3,.bool c.f4,w9 c.f5,w9 c.f6])::(146,.vptr [.i c.f0,.str c.f1,q32 c.f2,.bool c.f3,.bool c.f4,w9 c.f5,w9 c.f6])::C)
           let A:Env:=[(158,.i h),(157,w4 o),(156,.bool (decide ((g.f5.length:Int)=1))),(155,.i (g.f5.length:Int)),(154,w9 g.f5),(153,.ptr 0 7 5),(152,.bool false),(151,.bool false),(150,.bool false),(149,.i (c.f2.n:Int)),(148,q32 c.f2),(147,.vptr [q32 c.f2,.bool c.f3,.bool c.f4,w9 c.f5,w9 c.f6]),(146,.vptr [.i c.f0,.str c.f1,q32 c.f2,.bool c.f3,.bool c.f4,w9 c.f5,w9 c.f6]),(145,q32 g.f2),(144,.ptr 0 7 2),(143,.bool false),(142,.bool false),(141,.bool false),(140,.i (b.f2.n:Int)),(139,q32 b.f2),(138,.vptr [q32 b.f2,.bool b.f3,.bool b.f4,w9 b.f5,w9 b.f6]),(137,.vptr [.i b.f0,.str b.f1,q32 b.f2,.bool b.f3,.bool b.f4,w9 b.f5,w9 b.f6]),(136,q32 g.f2),(135,.ptr 0 7 2),(134,.bool false),(133,.bool false),(132,.bool false),(131,.i (fW .i64 ((fW .u64 m).tmod 4))),(130,.i (a.f2.n:Int)),(129,q32 a.f2),(128,.vptr [q32 a.f2,.bool a.f3,.bool a.f4,w9 a.f5,w9 a.f6]),(127,.vptr [.i a.f0,.str a.f1,q32 a.f2,.bool a.f3,.bool a.f4,w9 a.f5,w9 a.f6]),(126,q32 g.f2),(125,.ptr 0 7 2),(124,.bool false),(123,.bool false),(122,.bool false),(121,.i (g.f2.n:Int)),(120,q32 g.f2),(119,.ptr 0 7 2),(118,.bool false),(117,.bool false),(116,.str g.f1),(115,.ptr 0 7 1),(0,w4 o),(5,.i (fW .i64 ((fW .u64 m).tmod 4))),(11,w32 j),(12,.i h),(13,.ptr 0 7 0)]
           let a4:Env:=((167,.bool (!(decide ((g.f5.length:Int)=1) == decide (0 < h))))::(166,.bool (!(decide ((g.f5.length:Int)=1) == decide (0 < h))))::(165,.bool (!(decide ((g.f5.length:Int)=1) == decide (0 < h))))::(164,.bool (decide (0 < h)))::(163,.bool (decide (0 < h)))::(162,.i h)::(161,.bool true)::(160,.bool true)::(159,.vptr [.bool l])::A)
           let b3:Env:=[(170,.bool true),(169,.tuple []),(168,.tuple []),(167,.bool true),(166,.bool true),(165,.bool true),(164,.bool (decide (0 < h))),(163,.bool (decide (0 < h))),(162,.i h),(161,.bool true),(160,.bool true),(159,.vptr [.bool l]),(158,.i h),(157,w4 o),(156,.bool (decide ((g.f5.length:Int)=1))),(155,.i (g.f5.length:Int)),(154,w9 g.f5),(153,.ptr 0 7 5),(152,.bool false),(151,.bool false),(150,.bool false),(149,.i (c.f2.n:Int)),(148,q32 c.f2),(147,.vptr [q32 c.f2,.bool c.f3,.bool c.f4,w9 c.f5,w9 c.f6]),(146,.vptr [.i c.f0,.str c.f1,q32 c.f2,.bool c.f3,.bool c.f4,w9 c.f5,w9 c.f6]),(145,q32 g.f2),(144,.ptr 0 7 2),(143,.bool false),(142,.bool false),(141,.bool false),(140,.i (b.f2.n:Int)),(139,q32 b.f2),(138,.vptr [q32 b.f2,.bool b.f3,.bool b.f4,w9 b.f5,w9 b.f6]),(137,.vptr [.i b.f0,.str b.f1,q32 b.f2,.bool b.f3,.bool b.f4,w9 b.f5,w9 b.f6]),(136,q32 g.f2),(135,.ptr 0 7 2),(134,.bool false),(133,.bool false),(132,.bool false),(131,.i (fW .i64 ((fW .u64 m).tmod 4))),(130,.i (a.f2.n:Int)),(129,q32 a.f2),(128,.vptr [q32 a.f2,.bool a.f3,.bool a.f4,w9 a.f5,w9 a.f6]),(127,.vptr [.i a.f0,.str a.f1,q32 a.f2,.bool a.f3,.bool a.f4,w9 a.f5,w9 a.f6]),(126,q32 g.f2),(125,.ptr 0 7 2),(124,.bool false),(123,.bool false),(122,.bool false),(121,.i (g.f2.n:Int)),(120,q32 g.f2),(119,.ptr 0 7 2),(118,.bool false),(117,.bool false),(116,.str g.f1),(115,.ptr 0 7 1),(0,w4 o),(5,.i (fW .i64 ((fW .u64 m).tmod 4))),(11,w32 j),(12,.i h),(13,.ptr 0 7 0)]
           refine oD (H':=(mkH [⟨e32 g,7,false⟩])) (nav [0] g4p38) b3 [] g4d0 (oDr 4 4 D (oDe (λz=>[(118,.bool z),(117,.bool z),(116,.str g.f1),(115,.ptr 0 7 1),(0,w4 o),(5,.i (fW .i64 ((fW .u64 m).tmod 4))),(11,w32 j),(12,.i h),(13,.ptr 0 7 0)]) F (oDr 6 10 G (oDe (λz=>[(124,.bool z),(123,.bool z),(122,.bool z),(121,.i (g.f2.n:Int)),(120,q32 g.f2),(119,.ptr 0 7 2),(118,.bool false),(117,.bool false),(116,.str g.f1),(115,.ptr 0 7 1),(0,w4 o),(5,.i (fW .i64 ((fW .u64 m).tmod 4))),(11,w32 j),(12,.i h),(13,.ptr 0 7 0)]) K (oDr 2 12 r (qAe (l':=(opsAt g4p38).toList.drop 13) (eE:=((127,.vptr [.i a.f0,.str a.f1,q32 a.f2,.bool a.f3,.bool a.f4,w9 a.f5,w9 a.f6])::r)) (hs:=[]) (x:=a) (λ(a:S31)=>(.vptr [.i a.f0,.str a.f1,q32 a.f2,.bool a.f3,.bool a.f4,w9 a.f5,w9 a.f6],(mkH [⟨e32 g,7,false⟩]))) (vidxR (sz:=7) qBi B Kr) Kr (oDr 7 20 M (oDe (λz=>[(134,.bool z),(133,.bool z),(132,.bool z),(131,.i (fW .i64 ((fW .u64 m).tmod 4))),(130,.i (a.f2.n:Int)),(129,q32 a.f2),(128,.vptr [q32 a.f2,.bool a.f3,.bool a.f4,w9 a.f5,w9 a.f6]),(127,.vptr [.i a.f0,.str a.f1,q32 a.f2,.bool a.f3,.bool a.f4,w9 a.f5,w9 a.f6]),(126,q32 g.f2),(125,.ptr 0 7 2),(124,.bool false),(123,.bool false),(122,.bool false),(121,.i (g.f2.n:Int)),(120,q32 g.f2),(119,.ptr 0 7 2),(118,.bool false),(117,.bool false),(116,.str g.f1),(115,.ptr 0 7 1),(0,w4 o),(5,.i (fW .i64 ((fW .u64 m).tmod 4))),(11,w32 j),(12,.i h),(13,.ptr 0 7 0)]) N (oDr 2 22 u (qAe (l':=(opsAt g4p38).toList.drop 23) (eE:=((137,.vptr [.i b.f0,.str b.f1,q32 b.f2,.bool b.f3,.bool b.f4,w9 b.f5,w9 b.f6])::u)) (hs:=[]) (x:=b) (λ(b:S31)=>(.vptr [.i b.f0,.str b.f1,q32 b.f2,.bool b.f3,.bool b.f4,w9 b.f5,w9 b.f6],(mkH [⟨e32 g,7,false⟩]))) (vidxR (sz:=7) qBi E Kr) Kr (oDr 6 29 T (oDe (λz=>[(143,.bool z),(142,.bool z),(141,.bool z),(140,.i (b.f2.n:Int)),(139,q32 b.f2),(138,.vptr [q32 b.f2,.bool b.f3,.bool b.f4,w9 b.f5,w9 b.f6]),(137,.vptr [.i b.f0,.str b.f1,q32 b.f2,.bool b.f3,.bool b.f4,w9 b.f5,w9 b.f6]),(136,q32 g.f2),(135,.ptr 0 7 2),(134,.bool false),(133,.bool false),(132,.bool false),(131,.i (fW .i64 ((fW .u64 m).tmod 4))),(130,.i (a.f2.n:Int)),(129,q32 a.f2),(128,.vptr [q32 a.f2,.bool a.f3,.bool a.f4,w9 a.f5,w9 a.f6]),(127,.vptr [.i a.f0,.str a.f1,q32 a.f2,.bool a.f3,.bool a.f4,w9 a.f5,w9 a.f6]),(126,q32 g.f2),(125,.ptr 0 7 2),(124,.bool false),(123,.bool false),(122,.bool false),(121,.i (g.f2.n:Int)),(120,q32 g.f2),(119,.ptr 0 7 2),(118,.bool false),(117,.bool false),(116,.str g.f1),(115,.ptr 0 7 1),(0,w4 o),(5,.i (fW .i64 ((fW .u64 m).tmod 4))),(11,w32 j),(12,.i h),(13,.ptr 0 7 0)]) S (oDr 2 31 C (qAe (l':=(opsAt g4p38).toList.drop 32) (eE:=((146,.vptr [.i c.f0,.str c.f1,q32 c.f2,.bool c.f3,.bool c.f4,w9 c.f5,w9 c.f6])::C)) (hs:=[]) (x:=c) (λ(c:S31)=>(.vptr [.i c.f0,.str c.f1,q32 c.f2,.bool c.f3,.bool c.f4,w9 c.f5,w9 c.f6],(mkH [⟨e32 g,7,false⟩]))) (vidxR (sz:=7) qBi L Kr) Kr (oDr 6 38 W (oDe (λz=>[(152,.bool z),(151,.bool z),(150,.bool z),(149,.i (c.f2.n:Int)),(148,q32 c.f2),(147,.vptr [q32 c.f2,.bool c.f3,.bool c.f4,w9 c.f5,w9 c.f6]),(146,.vptr [.i c.f0,.str c.f1,q32 c.f2,.bool c.f3,.bool c.f4,w9 c.f5,w9 c.f6]),(145,q32 g.f2),(144,.ptr 0 7 2),(143,.bool false),(142,.bool false),(141,.bool false),(140,.i (b.f2.n:Int)),(139,q32 b.f2),(138,.vptr [q32 b.f2,.bool b.f3,.bool b.f4,w9 b.f5,w9 b.f6]),(137,.vptr [.i b.f0,.str b.f1,q32 b.f2,.bool b.f3,.bool b.f4,w9 b.f5,w9 b.f6]),(136,q32 g.f2),(135,.ptr 0 7 2),(134,.bool false),(133,.bool false),(132,.bool false),(131,.i (fW .i64 ((fW .u64 m).tmod 4))),(130,.i (a.f2.n:Int)),(129,q32 a.f2),(128,.vptr [q32 a.f2,.bool a.f3,.bool a.f4,w9 a.f5,w9 a.f6]),(127,.vptr [.i a.f0,.str a.f1,q32 a.f2,.bool a.f3,.bool a.f4,w9 a.f5,w9 a.f6]),(126,q32 g.f2),(125,.ptr 0 7 2),(124,.bool false),(123,.bool false),(122,.bool false),(121,.i (g.f2.n:Int)),(120,q32 g.f2),(119,.ptr 0 7 2),(118,.bool false),(117,.bool false),(116,.str g.f1),(115,.ptr 0 7 1),(0,w4 o),(5,.i (fW .i64 ((fW .u64 m).tmod 4))),(11,w32 j),(12,.i h),(13,.ptr 0 7 0)]) V (oDr 6 44 A (qAa (l':=(opsAt g4p38).toList.drop 45) (eE:=((159,.vptr [.bool l])::A)) (hs:=[]) (x:=l) (λ(l:Bool)=>(.vptr [.bool l],(mkH [⟨e32 g,7,false⟩]))) (vidxH (sz:=1) e4_len Kr) O Kr (oDr 2 47 ((161,.bool l)::(160,.bool l)::(159,.vptr [.bool l])::A) (oDe (λz=>((161,.bool z)::(160,.bool z)::(159,.vptr [.bool l])::A)) Y (oDr 6 53 a4 (oDe (λz=>[(167,.bool z),(166,.bool z),(165,.bool z),(164,.bool (decide (0 < h))),(163,.bool (decide (0 < h))),(162,.i h),(161,.bool true),(160,.bool true),(159,.vptr [.bool l]),(158,.i h),(157,w4 o),(156,.bool (decide ((g.f5.length:Int)=1))),(155,.i (g.f5.length:Int)),(154,w9 g.f5),(153,.ptr 0 7 5),(152,.bool false),(151,.bool false),(150,.bool false),(149,.i (c.f2.n:Int)),(148,q32 c.f2),(147,.vptr [q32 c.f2,.bool c.f3,.bool c.f4,w9 c.f5,w9 c.f6]),(146,.vptr [.i c.f0,.str c.f1,q32 c.f2,.bool c.f3,.bool c.f4,w9 c.f5,w9 c.f6]),(145,q32 g.f2),(144,.ptr 0 7 2),(143,.bool false),(142,.bool false),(141,.bool false),(140,.i (b.f2.n:Int)),(139,q32 b.f2),(138,.vptr [q32 b.f2,.bool b.f3,.bool b.f4,w9 b.f5,w9 b.f6]),(137,.vptr [.i b.f0,.str b.f1,q32 b.f2,.bool b.f3,.bool b.f4,w9 b.f5,w9 b.f6]),(136,q32 g.f2),(135,.ptr 0 7 2),(134,.bool false),(133,.bool false),(132,.bool false),(131,.i (fW .i64 ((fW .u64 m).tmod 4))),(130,.i (a.f2.n:Int)),(129,q32 a.f2),(128,.vptr [q32 a.f2,.bool a.f3,.bool a.f4,w9 a.f5,w9 a.f6]),(127,.vptr [.i a.f0,.str a.f1,q32 a.f2,.bool a.f3,.bool a.f4,w9 a.f5,w9 a.f6]),(126,q32 g.f2),(125,.ptr 0 7 2),(124,.bool false),(123,.bool false),(122,.bool false),(121,.i (g.f2.n:Int)),(120,q32 g.f2),(119,.ptr 0 7 2),(118,.bool false),(117,.bool false),(116,.str g.f1),(115,.ptr 0 7 1),(0,w4 o),(5,.i (fW .i64 ((fW .u64 m).tmod 4))),(11,w32 j),(12,.i h),(13,.ptr 0 7 0)]) U (oDr 3 56 b3 .nil))))))))))))))))))))))) ?_
           refine oK [0,5,11,12,170] [(0,w4 o),(5,.i (fW .i64 ((fW .u64 m).tmod 4))),(11,w32 j),(12,.i h),(170,.bool true)] ?_
           refine qA9 [] [⟨e32 g,7,false⟩] Kr rfl Kr trivial ?_
           exact J (true,h)
          ·let D:Env:=[(118,.bool (!(eqL g.f1 [102]))),(117,.bool (!(eqL g.f1 [102]))),(116,.str g.f1),(115,.ptr 0 7 1),(0,w4 o),(5,.i (fW .i64 ((fW .u64 m).tmod 4))),(11,w32 j),(12,.i h),(13,.ptr 0 7 0)]
           let G:Env:=[(124,.bool (!decide ((g.f2.n:Int)=3))),(123,.bool (!decide ((g.f2.n:Int)=3))),(122,.bool (!decide ((g.f2.n:Int)=3))),(121,.i (g.f2.n:Int)),(120,q32 g.f2),(119,.ptr 0 7 2),(118,.bool false),(117,.bool false),(116,.str g.f1),(115,.ptr 0 7 1),(0,w4 o),(5,.i (fW .i64 ((fW .u64 m).tmod 4))),(11,w32 j),(12,.i h),(13,.ptr 0 7 0)]
           let r:Env:=[(126,q32 g.f2),(125,.ptr 0 7 2),(124,.bool false),(123,.bool false),(122,.bool false),(121,.i (g.f2.n:Int)),(120,q32 g.f2),(119,.ptr 0 7 2),(118,.bool false),(117,.bool false),(116,.str g.f1),(115,.ptr 0 7 1),(0,w4 o),(5,.i (fW .i64 ((fW .u64 m).tmod 4))),(11,w32 j),(12,.i h),(13,.ptr 0 7 0)]
           let M:Env:=((134,.bool (!decide ((a.f2.n:Int)=fW .i64 ((fW .u64 m).tmod 4))))::(133,.bool (!decide ((a.f2.n:Int)=fW .i64 ((fW .u64 m).tmod 4))))::(132,.bool (!decide ((a.f2.n:Int)=fW .i64 ((fW .u64 m).tmod 4))))::(131,.i (fW .i64 ((fW .u64 m).tmod 4)))::(130,.i (a.f2.n:Int))::(129,q32 a.f2)::(128,.vptr [q32 a.f2,.bool a.f3,.bool a.f4,w9 a.f5,w9 a.f6])::(127,.vptr [.i a.f0,.str a.f1,q32 a.f2,.bool a.f3,.bool a.f4,w9 a.f5,w9 a.f6])::r)
           let u:Env:=[(136,q32 g.f2),(135,.ptr 0 7 2),(134,.bool false),(133,.bool false),(132,.bool false),(131,.i (fW .i64 ((fW .u64 m).tmod 4))),(130,.i (a.f2.n:Int)),(129,q32 a.f2),(128,.vptr [q32 a.f2,.bool a.f3,.bool a.f4,w9 a.f5,w9 a.f6]),(127,.vptr [.i a.f0,.str a.f1,q32 a.f2,.bool a.f3,.bool a.f4,w9 a.f5,w9 a.f6]),(126,q32 g.f2),(125,.ptr 0 7 2),(124,.bool false),(123,.bool false),(122,.bool false),(121,.i (g.f2.n:Int)),(120,q32 g.f2),(119,.ptr 0 7 2),(118,.bool false),(117,.bool false),(116,.str g.f1),(115,.ptr 0 7 1),(0,w4 o),(5,.i (fW .i64 ((fW .u64 m).tmod 4))),(11,w32 j),(12,.i h),(13,.ptr 0 7 0)]
           let T:Env:=((143,.bool (!decide ((b.f2.n:Int)=1)))::(142,.bool (!decide ((b.f2.n:Int)=1)))::(141,.bool (!decide ((b.f2.n:Int)=1)))::(140,.i (b.f2.n:Int))::(139,q32 b.f2)::(138,.vptr [q32 b.f2,.bool b.f3,.bool b.f4,w9 b.f5,w9 b.f6])::(137,.vptr [.i b.f0,.str b.f1,q32 b.f2,.bool b.f3,.bool b.f4,w9 b.f5,w9 b.f6])::u)
           let C:Env:=[(145,q32 g.f2),(144,.ptr 0 7 2),(143,.bool false),(142,.bool false),(141,.bool false),(140,.i (b.f2.n:Int)),(139,q32 b.f2),(138,.vptr [q32 b.f2,.bool b.f3,.bool b.f4,w9 b.f5,w9 b.f6]),(137,.vptr [.i b.f0,.str b.f1,q32 b.f2,.bool b.f3,.bool b.f4,w9 b.f5,w9 b.f6]),(136,q32 g.f2),(135,.ptr 0 7 2),(134,.bool false),(133,.bool false),(132,.bool false),(131,.i (fW .i64 ((fW .u64 m).tmod 4))),(130,.i (a.f2.n:Int)),(129,q32 a.f2),(128,.vptr [q32 a.f2,.bool a.f3,.bool a.f4,w9 a.f5,w9 a.f6]),(127,.vptr [.i a.f0,.str a.f1,q32 a.f2,.bool a.f3,.bool a.f4,w9 a.f5,w9 a.f6]),(126,q32 g.f2),(125,.ptr 0 7 2),(124,.bool false),(123,.bool false),(122,.bool false),(121,.i (g.f2.n:Int)),(120,q32 g.f2),(119,.ptr 0 7 2),(118,.bool false),(117,.bool false),(116,.str g.f1),(115,.ptr 0 7 1),(0,w4 o),(5,.i (fW .i64 ((fW .u64 m).tmod 4))),(11,w32 j),(12,.i h),(13,.ptr 0 7 0)]
           let W:Env:=((152,.bool (!decide ((c.f2.n:Int)=2)))::(151,.bool (!decide ((c.f2.n:Int)=2)))::(150,.bool (!decide ((c.f2.n:Int)=2)))::(149,.i (c.f2.n:Int))::(148,q32 c.f2)::(147,.vptr [q32 c.f2,.bool c.f3,.bool c.f4,w9 c.f5,w9 c.f6])::(146,.vptr [.i c.f0,.str c.f1,q32 c.f2,.bool c.f3,.bool c.f4,w9 c.f5,w9 c.f6])::C)
           let A:Env:=[(158,.i h),(157,w4 o),(156,.bool (decide ((g.f5.length:Int)=1))),(155,.i (g.f5.length:Int)),(154,w9 g.f5),(153,.ptr 0 7 5),(152,.bool false),(151,.bool false),(150,.bool false),(149,.i (c.f2.n:Int)),(148,q32 c.f2),(147,.vptr [q32 c.f2,.bool c.f3,.bool c.f4,w9 c.f5,w9 c.f6]),(146,.vptr [.i c.f0,.str c.f1,q32 c.f2,.bool c.f3,.bool c.f4,w9 c.f5,w9 c.f6]),(145,q32 g.f2),(144,.ptr 0 7 2),(143,.bool false),(142,.bool false),(141,.bool false),(140,.i (b.f2.n:Int)),(139,q32 b.f2),(138,.vptr [q32 b.f2,.bool b.f3,.bool b.f4,w9 b.f5,w9 b.f6]),(137,.vptr [.i b.f0,.str b.f1,q32 b.f2,.bool b.f3,.bool b.f4,w9 b.f5,w9 b.f6]),(136,q32 g.f2),(135,.ptr 0 7 2),(134,.bool false),(133,.bool false),(132,.bool false),(131,.i (fW .i64 ((fW .u64 m).tmod 4))),(130,.i (a.f2.n:Int)),(129,q32 a.f2),(128,.vptr [q32 a.f2,.bool a.f3,.bool a.f4,w9 a.f5,w9 a.f6]),(127,.vptr [.i a.f0,.str a.f1,q32 a.f2,.bool a.f3,.bool a.f4,w9 a.f5,w9 a.f6]),(126,q32 g.f2),(125,.ptr 0 7 2),(124,.bool false),(123,.bool false),(122,.bool false),(121,.i (g.f2.n:Int)),(120,q32 g.f2),(119,.ptr 0 7 2),(118,.bool false),(117,.bool false),(116,.str g.f1),(115,.ptr 0 7 1),(0,w4 o),(5,.i (fW .i64 ((fW .u64 m).tmod 4))),(11,w32 j),(12,.i h),(13,.ptr 0 7 0)]
           let a4:Env:=((167,.bool (!(decide ((g.f5.length:Int)=1) == decide (0 < h))))::(166,.bool (!(decide ((g.f5.length:Int)=1) == decide (0 < h))))::(165,.bool (!(decide ((g.f5.length:Int)=1) == decide (0 < h))))::(164,.bool (decide (0 < h)))::(163,.bool (decide (0 < h)))::(162,.i h)::(161,.bool true)::(160,.bool true)::(159,.vptr [.bool l])::A)
           let b4:Env:=[(170,.bool g.f4),(169,.bool g.f4),(168,.ptr 0 7 4),(167,.bool false),(166,.bool false),(165,.bool false),(164,.bool (decide (0 < h))),(163,.bool (decide (0 < h))),(162,.i h),(161,.bool true),(160,.bool true),(159,.vptr [.bool l]),(158,.i h),(157,w4 o),(156,.bool (decide ((g.f5.length:Int)=1))),(155,.i (g.f5.length:Int)),(154,w9 g.f5),(153,.ptr 0 7 5),(152,.bool false),(151,.bool false),(150,.bool false),(149,.i (c.f2.n:Int)),(148,q32 c.f2),(147,.vptr [q32 c.f2,.bool c.f3,.bool c.f4,w9 c.f5,w9 c.f6]),(146,.vptr [.i c.f0,.str c.f1,q32 c.f2,.bool c.f3,.bool c.f4,w9 c.f5,w9 c.f6]),(145,q32 g.f2),(144,.ptr 0 7 2),(143,.bool false),(142,.bool false),(141,.bool false),(140,.i (b.f2.n:Int)),(139,q32 b.f2),(138,.vptr [q32 b.f2,.bool b.f3,.bool b.f4,w9 b.f5,w9 b.f6]),(137,.vptr [.i b.f0,.str b.f1,q32 b.f2,.bool b.f3,.bool b.f4,w9 b.f5,w9 b.f6]),(136,q32 g.f2),(135,.ptr 0 7 2),(134,.bool false),(133,.bool false),(132,.bool false),(131,.i (fW .i64 ((fW .u64 m).tmod 4))),(130,.i (a.f2.n:Int)),(129,q32 a.f2),(128,.vptr [q32 a.f2,.bool a.f3,.bool a.f4,w9 a.f5,w9 a.f6]),(127,.vptr [.i a.f0,.str a.f1,q32 a.f2,.bool a.f3,.bool a.f4,w9 a.f5,w9 a.f6]),(126,q32 g.f2),(125,.ptr 0 7 2),(124,.bool false),(123,.bool false),(122,.bool false),(121,.i (g.f2.n:Int)),(120,q32 g.f2),(119,.ptr 0 7 2),(118,.bool false),(117,.bool false),(116,.str g.f1),(115,.ptr 0 7 1),(0,w4 o),(5,.i (fW .i64 ((fW .u64 m).tmod 4))),(11,w32 j),(12,.i h),(13,.ptr 0 7 0)]
           refine oD (H':=(mkH [⟨e32 g,7,false⟩])) (nav [0] g4p38) b4 [] g4d0 (oDr 4 4 D (oDe (λz=>[(118,.bool z),(117,.bool z),(116,.str g.f1),(115,.ptr 0 7 1),(0,w4 o),(5,.i (fW .i64 ((fW .u64 m).tmod 4))),(11,w32 j),(12,.i h),(13,.ptr 0 7 0)]) F (oDr 6 10 G (oDe (λz=>[(124,.bool z),(123,.bool z),(122,.bool z),(121,.i (g.f2.n:Int)),(120,q32 g.f2),(119,.ptr 0 7 2),(118,.bool false),(117,.bool false),(116,.str g.f1),(115,.ptr 0 7 1),(0,w4 o),(5,.i (fW .i64 ((fW .u64 m).tmod 4))),(11,w32 j),(12,.i h),(13,.ptr 0 7 0)]) K (oDr 2 12 r (qAe (l':=(opsAt g4p38).toList.drop 13) (eE:=((127,.vptr [.i a.f0,.str a.f1,q32 a.f2,.bool a.f3,.bool a.f4,w9 a.f5,w9 a.f6])::r)) (hs:=[]) (x:=a) (λ(a:S31)=>(.vptr [.i a.f0,.str a.f1,q32 a.f2,.bool a.f3,.bool a.f4,w9 a.f5,w9 a.f6],(mkH [⟨e32 g,7,false⟩]))) (vidxR (sz:=7) qBi B Kr) Kr (oDr 7 20 M (oDe (λz=>[(134,.bool z),(133,.bool z),(132,.bool z),(131,.i (fW .i64 ((fW .u64 m).tmod 4))),(130,.i (a.f2.n:Int)),(129,q32 a.f2),(128,.vptr [q32 a.f2,.bool a.f3,.bool a.f4,w9 a.f5,w9 a.f6]),(127,.vptr [.i a.f0,.str a.f1,q32 a.f2,.bool a.f3,.bool a.f4,w9 a.f5,w9 a.f6]),(126,q32 g.f2),(125,.ptr 0 7 2),(124,.bool false),(123,.bool false),(122,.bool false),(121,.i (g.f2.n:Int)),(120,q32 g.f2),(119,.ptr 0 7 2),(118,.bool false),(117,.bool false),(116,.str g.f1),(115,.ptr 0 7 1),(0,w4 o),(5,.i (fW .i64 ((fW .u64 m).tmod 4))),(11,w32 j),(12,.i h),(13,.ptr 0 7 0)]) N (oDr 2 22 u (qAe (l':=(opsAt g4p38).toList.drop 23) (eE:=((137,.vptr [.i b.f0,.str b.f1,q32 b.f2,.bool b.f3,.bool b.f4,w9 b.f5,w9 b.f6])::u)) (hs:=[]) (x:=b) (λ(b:S31)=>(.vptr [.i b.f0,.str b.f1,q32 b.f2,.bool b.f3,.bool b.f4,w9 b.f5,w9 b.f6],(mkH [⟨e32 g,7,false⟩]))) (vidxR (sz:=7) qBi E Kr) Kr (oDr 6 29 T (oDe (λz=>[(143,.bool z),(142,.bool z),(141,.bool z),(140,.i (b.f2.n:Int)),(139,q32 b.f2),(138,.vptr [q32 b.f2,.bool b.f3,.bool b.f4,w9 b.f5,w9 b.f6]),(137,.vptr [.i b.f0,.str b.f1,q32 b.f2,.bool b.f3,.bool b.f4,w9 b.f5,w9 b.f6]),(136,q32 g.f2),(135,.ptr 0 7 2),(134,.bool false),(133,.bool false),(132,.bool false),(131,.i (fW .i64 ((fW .u64 m).tmod 4))),(130,.i (a.f2.n:Int)),(129,q32 a.f2),(128,.vptr [q32 a.f2,.bool a.f3,.bool a.f4,w9 a.f5,w9 a.f6]),(127,.vptr [.i a.f0,.str a.f1,q32 a.f2,.bool a.f3,.bool a.f4,w9 a.f5,w9 a.f6]),(126,q32 g.f2),(125,.ptr 0 7 2),(124,.bool false),(123,.bool false),(122,.bool false),(121,.i (g.f2.n:Int)),(120,q32 g.f2),(119,.ptr 0 7 2),(118,.bool false),(117,.bool false),(116,.str g.f1),(115,.ptr 0 7 1),(0,w4 o),(5,.i (fW .i64 ((fW .u64 m).tmod 4))),(11,w32 j),(12,.i h),(13,.ptr 0 7 0)]) S (oDr 2 31 C (qAe (l':=(opsAt g4p38).toList.drop 32) (eE:=((146,.vptr [.i c.f0,.str c.f1,q32 c.f2,.bool c.f3,.bool c.f4,w9 c.f5,w9 c.f6])::C)) (hs:=[]) (x:=c) (λ(c:S31)=>(.vptr [.i c.f0,.str c.f1,q32 c.f2,.bool c.f3,.bool c.f4,w9 c.f5,w9 c.f6],(mkH [⟨e32 g,7,false⟩]))) (vidxR (sz:=7) qBi L Kr) Kr (oDr 6 38 W (oDe (λz=>[(152,.bool z),(151,.bool z),(150,.bool z),(149,.i (c.f2.n:Int)),(148,q32 c.f2),(147,.vptr [q32 c.f2,.bool c.f3,.bool c.f4,w9 c.f5,w9 c.f6]),(146,.vptr [.i c.f0,.str c.f1,q32 c.f2,.bool c.f3,.bool c.f4,w9 c.f5,w9 c.f6]),(145,q32 g.f2),(144,.ptr 0 7 2),(143,.bool false),(142,.bool false),(141,.bool false),(140,.i (b.f2.n:Int)),(139,q32 b.f2),(138,.vptr [q32 b.f2,.bool b.f3,.bool b.f4,w9 b.f5,w9 b.f6]),(137,.vptr [.i b.f0,.str b.f1,q32 b.f2,.bool b.f3,.bool b.f4,w9 b.f5,w9 b.f6]),(136,q32 g.f2),(135,.ptr 0 7 2),(134,.bool false),(133,.bool false),(132,.bool false),(131,.i (fW .i64 ((fW .u64 m).tmod 4))),(130,.i (a.f2.n:Int)),(129,q32 a.f2),(128,.vptr [q32 a.f2,.bool a.f3,.bool a.f4,w9 a.f5,w9 a.f6]),(127,.vptr [.i a.f0,.str a.f1,q32 a.f2,.bool a.f3,.bool a.f4,w9 a.f5,w9 a.f6]),(126,q32 g.f2),(125,.ptr 0 7 2),(124,.bool false),(123,.bool false),(122,.bool false),(121,.i (g.f2.n:Int)),(120,q32 g.f2),(119,.ptr 0 7 2),(118,.bool false),(117,.bool false),(116,.str g.f1),(115,.ptr 0 7 1),(0,w4 o),(5,.i (fW .i64 ((fW .u64 m).tmod 4))),(11,w32 j),(12,.i h),(13,.ptr 0 7 0)]) V (oDr 6 44 A (qAa (l':=(opsAt g4p38).toList.drop 45) (eE:=((159,.vptr [.bool l])::A)) (hs:=[]) (x:=l) (λ(l:Bool)=>(.vptr [.bool l],(mkH [⟨e32 g,7,false⟩]))) (vidxH (sz:=1) e4_len Kr) O Kr (oDr 2 47 ((161,.bool l)::(160,.bool l)::(159,.vptr [.bool l])::A) (oDe (λz=>((161,.bool z)::(160,.bool z)::(159,.vptr [.bool l])::A)) Y (oDr 6 53 a4 (oDe (λz=>[(167,.bool z),(166,.bool z),(165,.bool z),(164,.bool (decide (0 < h))),(163,.bool (decide (0 < h))),(162,.i h),(161,.bool true),(160,.bool true),(159,.vptr [.bool l]),(158,.i h),(157,w4 o),(156,.bool (decide ((g.f5.length:Int)=1))),(155,.i (g.f5.length:Int)),(154,w9 g.f5),(153,.ptr 0 7 5),(152,.bool false),(151,.bool false),(150,.bool false),(149,.i (c.f2.n:Int)),(148,q32 c.f2),(147,.vptr [q32 c.f2,.bool c.f3,.bool c.f4,w9 c.f5,w9 c.f6]),(146,.vptr [.i c.f0,.str c.f1,q32 c.f2,.bool c.f3,.bool c.f4,w9 c.f5,w9 c.f6]),(145,q32 g.f2),(144,.ptr 0 7 2),(143,.bool false),(142,.bool false),(141,.bool false),(140,.i (b.f2.n:Int)),(139,q32 b.f2),(138,.vptr [q32 b.f2,.bool b.f3,.bool b.f4,w9 b.f5,w9 b.f6]),(137,.vptr [.i b.f0,.str b.f1,q32 b.f2,.bool b.f3,.bool b.f4,w9 b.f5,w9 b.f6]),(136,q32 g.f2),(135,.ptr 0 7 2),(134,.bool false),(133,.bool false),(132,.bool false),(131,.i (fW .i64 ((fW .u64 m).tmod 4))),(130,.i (a.f2.n:Int)),(129,q32 a.f2),(128,.vptr [q32 a.f2,.bool a.f3,.bool a.f4,w9 a.f5,w9 a.f6]),(127,.vptr [.i a.f0,.str a.f1,q32 a.f2,.bool a.f3,.bool a.f4,w9 a.f5,w9 a.f6]),(126,q32 g.f2),(125,.ptr 0 7 2),(124,.bool false),(123,.bool false),(122,.bool false),(121,.i (g.f2.n:Int)),(120,q32 g.f2),(119,.ptr 0 7 2),(118,.bool false),(117,.bool false),(116,.str g.f1),(115,.ptr 0 7 1),(0,w4 o),(5,.i (fW .i64 ((fW .u64 m).tmod 4))),(11,w32 j),(12,.i h),(13,.ptr 0 7 0)]) U (oDr 3 56 b4 .nil))))))))))))))))))))))) ?_
           refine oK [0,5,11,12,170] [(0,w4 o),(5,.i (fW .i64 ((fW .u64 m).tmod 4))),(11,w32 j),(12,.i h),(170,.bool g.f4)] ?_
           refine qA9 [] [⟨e32 g,7,false⟩] Kr rfl Kr trivial ?_
           exact J (g.f4,h)
         ·refine qCo (λU=>?_) (λU=>?_)
          ·let D:Env:=[(118,.bool (!(eqL g.f1 [102]))),(117,.bool (!(eqL g.f1 [102]))),(116,.str g.f1),(115,.ptr 0 7 1),(0,w4 o),(5,.i (fW .i64 ((fW .u64 m).tmod 4))),(11,w32 j),(12,.i h),(13,.ptr 0 7 0)]
           let G:Env:=[(124,.bool (!decide ((g.f2.n:Int)=3))),(123,.bool (!decide ((g.f2.n:Int)=3))),(122,.bool (!decide ((g.f2.n:Int)=3))),(121,.i (g.f2.n:Int)),(120,q32 g.f2),(119,.ptr 0 7 2),(118,.bool false),(117,.bool false),(116,.str g.f1),(115,.ptr 0 7 1),(0,w4 o),(5,.i (fW .i64 ((fW .u64 m).tmod 4))),(11,w32 j),(12,.i h),(13,.ptr 0 7 0)]
           let r:Env:=[(126,q32 g.f2),(125,.ptr 0 7 2),(124,.bool false),(123,.bool false),(122,.bool false),(121,.i (g.f2.n:Int)),(120,q32 g.f2),(119,.ptr 0 7 2),(118,.bool false),(117,.bool false),(116,.str g.f1),(115,.ptr 0 7 1),(0,w4 o),(5,.i (fW .i64 ((fW .u64 m).tmod 4))),(11,w32 j),(12,.i h),(13,.ptr 0 7 0)]
           let M:Env:=((134,.bool (!decide ((a.f2.n:Int)=fW .i64 ((fW .u64 m).tmod 4))))::(133,.bool (!decide ((a.f2.n:Int)=fW .i64 ((fW .u64 m).tmod 4))))::(132,.bool (!decide ((a.f2.n:Int)=fW .i64 ((fW .u64 m).tmod 4))))::(131,.i (fW .i64 ((fW .u64 m).tmod 4)))::(130,.i (a.f2.n:Int))::(129,q32 a.f2)::(128,.vptr [q32 a.f2,.bool a.f3,.bool a.f4,w9 a.f5,w9 a.f6])::(127,.vptr [.i a.f0,.str a.f1,q32 a.f2,.bool a.f3,.bool a.f4,w9 a.f5,w9 a.f6])::r)
           let u:Env:=[(136,q32 g.f2),(135,.ptr 0 7 2),(134,.bool false),(133,.bool false),(132,.bool false),(131,.i (fW .i64 ((fW .u64 m).tmod 4))),(130,.i (a.f2.n:Int)),(129,q32 a.f2),(128,.vptr [q32 a.f2,.bool a.f3,.bool a.f4,w9 a.f5,w9 a.f6]),(127,.vptr [.i a.f0,.str a.f1,q32 a.f2,.bool a.f3,.bool a.f4,w9 a.f5,w9 a.f6]),(126,q32 g.f2),(125,.ptr 0 7 2),(124,.bool false),(123,.bool false),(122,.bool false),(121,.i (g.f2.n:Int)),(120,q32 g.f2),(119,.ptr 0 7 2),(118,.bool false),(117,.bool false),(116,.str g.f1),(115,.ptr 0 7 1),(0,w4 o),(5,.i (fW .i64 ((fW .u64 m).tmod 4))),(11,w32 j),(12,.i h),(13,.ptr 0 7 0)]
           let T:Env:=((143,.bool (!decide ((b.f2.n:Int)=1)))::(142,.bool (!decide ((b.f2.n:Int)=1)))::(141,.bool (!decide ((b.f2.n:Int)=1)))::(140,.i (b.f2.n:Int))::(139,q32 b.f2)::(138,.vptr [q32 b.f2,.bool b.f3,.bool b.f4,w9 b.f5,w9 b.f6])::(137,.vptr [.i b.f0,.str b.f1,q32 b.f2,.bool b.f3,.bool b.f4,w9 b.f5,w9 b.f6])::u)
           let C:Env:=[(145,q32 g.f2),(144,.ptr 0 7 2),(143,.bool false),(142,.bool false),(141,.bool false),(140,.i (b.f2.n:Int)),(139,q32 b.f2),(138,.vptr [q32 b.f2,.bool b.f3,.bool b.f4,w9 b.f5,w9 b.f6]),(137,.vptr [.i b.f0,.str b.f1,q32 b.f2,.bool b.f3,.bool b.f4,w9 b.f5,w9 b.f6]),(136,q32 g.f2),(135,.ptr 0 7 2),(134,.bool false),(133,.bool false),(132,.bool false),(131,.i (fW .i64 ((fW .u64 m).tmod 4))),(130,.i (a.f2.n:Int)),(129,q32 a.f2),(128,.vptr [q32 a.f2,.bool a.f3,.bool a.f4,w9 a.f5,w9 a.f6]),(127,.vptr [.i a.f0,.str a.f1,q32 a.f2,.bool a.f3,.bool a.f4,w9 a.f5,w9 a.f6]),(126,q32 g.f2),(125,.ptr 0 7 2),(124,.bool false),(123,.bool false),(122,.bool false),(121,.i (g.f2.n:Int)),(120,q32 g.f2),(119,.ptr 0 7 2),(118,.bool false),(117,.bool false),(116,.str g.f1),(115,.ptr 0 7 1),(0,w4 o),(5,.i (fW .i64 ((fW .u64 m).tmod 4))),(11,w32 j),(12,.i h),(13,.ptr 0 7 0)]
           let W:Env:=((152,.bool (!decide ((c.f2.n:Int)=2)))::(151,.bool (!decide ((c.f2.n:Int)=2)))::(150,.bool (!decide ((c.f2.n:Int)=2)))::(149,.i (c.f2.n:Int))::(148,q32 c.f2)::(147,.vptr [q32 c.f2,.bool c.f3,.bool c.f4,w9 c.f5,w9 c.f6])::(146,.vptr [.i c.f0,.str c.f1,q32 c.f2,.bool c.f3,.bool c.f4,w9 c.f5,w9 c.f6])::C)
           let A:Env:=[(158,.i h),(157,w4 o),(156,.bool (decide ((g.f5.length:Int)=1))),(155,.i (g.f5.length:Int)),(154,w9 g.f5),(153,.ptr 0 7 5),(152,.bool false),(151,.bool false),(150,.bool false),(149,.i (c.f2.n:Int)),(148,q32 c.f2),(147,.vptr [q32 c.f2,.bool c.f3,.bool c.f4,w9 c.f5,w9 c.f6]),(146,.vptr [.i c.f0,.str c.f1,q32 c.f2,.bool c.f3,.bool c.f4,w9 c.f5,w9 c.f6]),(145,q32 g.f2),(144,.ptr 0 7 2),(143,.bool false),(142,.bool false),(141,.bool false),(140,.i (b.f2.n:Int)),(139,q32 b.f2),(138,.vptr [q32 b.f2,.bool b.f3,.bool b.f4,w9 b.f5,w9 b.f6]),(137,.vptr [.i b.f0,.str b.f1,q32 b.f2,.bool b.f3,.bool b.f4,w9 b.f5,w9 b.f6]),(136,q32 g.f2),(135,.ptr 0 7 2),(134,.bool false),(133,.bool false),(132,.bool false),(131,.i (fW .i64 ((fW .u64 m).tmod 4))),(130,.i (a.f2.n:Int)),(129,q32 a.f2),(128,.vptr [q32 a.f2,.bool a.f3,.bool a.f4,w9 a.f5,w9 a.f6]),(127,.vptr [.i a.f0,.str a.f1,q32 a.f2,.bool a.f3,.bool a.f4,w9 a.f5,w9 a.f6]),(126,q32 g.f2),(125,.ptr 0 7 2),(124,.bool false),(123,.bool false),(122,.bool false),(121,.i (g.f2.n:Int)),(120,q32 g.f2),(119,.ptr 0 7 2),(118,.bool false),(117,.bool false),(116,.str g.f1),(115,.ptr 0 7 1),(0,w4 o),(5,.i (fW .i64 ((fW .u64 m).tmod 4))),(11,w32 j),(12,.i h),(13,.ptr 0 7 0)]
           let a5:Env:=((167,.bool (!(decide ((g.f5.length:Int)=1) == false)))::(166,.bool (!(decide ((g.f5.length:Int)=1) == false)))::(165,.bool (!(decide ((g.f5.length:Int)=1) == false)))::(164,.bool false)::(163,.tuple [])::(162,.tuple [])::(161,.bool false)::(160,.bool false)::(159,.vptr [.bool l])::A)
           let b5:Env:=[(170,.bool true),(169,.tuple []),(168,.tuple []),(167,.bool true),(166,.bool true),(165,.bool true),(164,.bool false),(163,.tuple []),(162,.tuple []),(161,.bool false),(160,.bool false),(159,.vptr [.bool l]),(158,.i h),(157,w4 o),(156,.bool (decide ((g.f5.length:Int)=1))),(155,.i (g.f5.length:Int)),(154,w9 g.f5),(153,.ptr 0 7 5),(152,.bool false),(151,.bool false),(150,.bool false),(149,.i (c.f2.n:Int)),(148,q32 c.f2),(147,.vptr [q32 c.f2,.bool c.f3,.bool c.f4,w9 c.f5,w9 c.f6]),(146,.vptr [.i c.f0,.str c.f1,q32 c.f2,.bool c.f3,.bool c.f4,w9 c.f5,w9 c.f6]),(145,q32 g.f2),(144,.ptr 0 7 2),(143,.bool false),(142,.bool false),(141,.bool false),(140,.i (b.f2.n:Int)),(139,q32 b.f2),(138,.vptr [q32 b.f2,.bool b.f3,.bool b.f4,w9 b.f5,w9 b.f6]),(137,.vptr [.i b.f0,.str b.f1,q32 b.f2,.bool b.f3,.bool b.f4,w9 b.f5,w9 b.f6]),(136,q32 g.f2),(135,.ptr 0 7 2),(134,.bool false),(133,.bool false),(132,.bool false),(131,.i (fW .i64 ((fW .u64 m).tmod 4))),(130,.i (a.f2.n:Int)),(129,q32 a.f2),(128,.vptr [q32 a.f2,.bool a.f3,.bool a.f4,w9 a.f5,w9 a.f6]),(127,.vptr [.i a.f0,.str a.f1,q32 a.f2,.bool a.f3,.bool a.f4,w9 a.f5,w9 a.f6]),(126,q32 g.f2),(125,.ptr 0 7 2),(124,.bool false),(123,.bool false),(122,.bool false),(121,.i (g.f2.n:Int)),(120,q32 g.f2),(119,.ptr 0 7 2),(118,.bool false),(117,.bool false),(116,.str g.f1),(115,.ptr 0 7 1),(0,w4 o),(5,.i (fW .i64 ((fW .u64 m).tmod 4))),(11,w32 j),(12,.i h),(13,.ptr 0 7 0)]
           refine oD (H':=(mkH [⟨e32 g,7,false⟩])) (nav [0] g4p38) b5 [] g4d0 (oDr 4 4 D (oDe (λz=>[(118,.bool z),(117,.bool z),(116,.str g.f1),(115,.ptr 0 7 1),(0,w4 o),(5,.i (fW .i64 ((fW .u64 m).tmod 4))),(11,w32 j),(12,.i h),(13,.ptr 0 7 0)]) F (oDr 6 10 G (oDe (λz=>[(124,.bool z),(123,.bool z),(122,.bool z),(121,.i (g.f2.n:Int)),(120,q32 g.f2),(119,.ptr 0 7 2),(118,.bool false),(117,.bool false),(116,.str g.f1),(115,.ptr 0 7 1),(0,w4 o),(5,.i (fW .i64 ((fW .u64 m).tmod 4))),(11,w32 j),(12,.i h),(13,.ptr 0 7 0)]) K (oDr 2 12 r (qAe (l':=(opsAt g4p38).toList.drop 13) (eE:=((127,.vptr [.i a.f0,.str a.f1,q32 a.f2,.bool a.f3,.bool a.f4,w9 a.f5,w9 a.f6])::r)) (hs:=[]) (x:=a) (λ(a:S31)=>(.vptr [.i a.f0,.str a.f1,q32 a.f2,.bool a.f3,.bool a.f4,w9 a.f5,w9 a.f6],(mkH [⟨e32 g,7,false⟩]))) (vidxR (sz:=7) qBi B Kr) Kr (oDr 7 20 M (oDe (λz=>[(134,.bool z),(133,.bool z),(132,.bool z),(131,.i (fW .i64 ((fW .u64 m).tmod 4))),(130,.i (a.f2.n:Int)),(129,q32 a.f2),(128,.vptr [q32 a.f2,.bool a.f3,.bool a.f4,w9 a.f5,w9 a.f6]),(127,.vptr [.i a.f0,.str a.f1,q32 a.f2,.bool a.f3,.bool a.f4,w9 a.f5,w9 a.f6]),(126,q32 g.f2),(125,.ptr 0 7 2),(124,.bool false),(123,.bool false),(122,.bool false),(121,.i (g.f2.n:Int)),(120,q32 g.f2),(119,.ptr 0 7 2),(118,.bool false),(117,.bool false),(116,.str g.f1),(115,.ptr 0 7 1),(0,w4 o),(5,.i (fW .i64 ((fW .u64 m).tmod 4))),(11,w32 j),(12,.i h),(13,.ptr 0 7 0)]) N (oDr 2 22 u (qAe (l':=(opsAt g4p38).toList.drop 23) (eE:=((137,.vptr [.i b.f0,.str b.f1,q32 b.f2,.bool b.f3,.bool b.f4,w9 b.f5,w9 b.f6])::u)) (hs:=[]) (x:=b) (λ(b:S31)=>(.vptr [.i b.f0,.str b.f1,q32 b.f2,.bool b.f3,.bool b.f4,w9 b.f5,w9 b.f6],(mkH [⟨e32 g,7,false⟩]))) (vidxR (sz:=7) qBi E Kr) Kr (oDr 6 29 T (oDe (λz=>[(143,.bool z),(142,.bool z),(141,.bool z),(140,.i (b.f2.n:Int)),(139,q32 b.f2),(138,.vptr [q32 b.f2,.bool b.f3,.bool b.f4,w9 b.f5,w9 b.f6]),(137,.vptr [.i b.f0,.str b.f1,q32 b.f2,.bool b.f3,.bool b.f4,w9 b.f5,w9 b.f6]),(136,q32 g.f2),(135,.ptr 0 7 2),(134,.bool false),(133,.bool false),(132,.bool false),(131,.i (fW .i64 ((fW .u64 m).tmod 4))),(130,.i (a.f2.n:Int)),(129,q32 a.f2),(128,.vptr [q32 a.f2,.bool a.f3,.bool a.f4,w9 a.f5,w9 a.f6]),(127,.vptr [.i a.f0,.str a.f1,q32 a.f2,.bool a.f3,.bool a.f4,w9 a.f5,w9 a.f6]),(126,q32 g.f2),(125,.ptr 0 7 2),(124,.bool false),(123,.bool false),(122,.bool false),(121,.i (g.f2.n:Int)),(120,q32 g.f2),(119,.ptr 0 7 2),(118,.bool false),(117,.bool false),(116,.str g.f1),(115,.ptr 0 7 1),(0,w4 o),(5,.i (fW .i64 ((fW .u64 m).tmod 4))),(11,w32 j),(12,.i h),(13,.ptr 0 7 0)]) S (oDr 2 31 C (qAe (l':=(opsAt g4p38).toList.drop 32) (eE:=((146,.vptr [.i c.f0,.str c.f1,q32 c.f2,.bool c.f3,.bool c.f4,w9 c.f5,w9 c.f6])::C)) (hs:=[]) (x:=c) (λ(c:S31)=>(.vptr [.i c.f0,.str c.f1,q32 c.f2,.bool c.f3,.bool c.f4,w9 c.f5,w9 c.f6],(mkH [⟨e32 g,7,false⟩]))) (vidxR (sz:=7) qBi L Kr) Kr (oDr 6 38 W (oDe (λz=>[(152,.bool z),(151,.bool z),(150,.bool z),(149,.i (c.f2.n:Int)),(148,q32 c.f2),(147,.vptr [q32 c.f2,.bool c.f3,.bool c.f4,w9 c.f5,w9 c.f6]),(146,.vptr [.i c.f0,.str c.f1,q32 c.f2,.bool c.f3,.bool c.f4,w9 c.f5,w9 c.f6]),(145,q32 g.f2),(144,.ptr 0 7 2),(143,.bool false),(142,.bool false),(141,.bool false),(140,.i (b.f2.n:Int)),(139,q32 b.f2),(138,.vptr [q32 b.f2,.bool b.f3,.bool b.f4,w9 b.f5,w9 b.f6]),(137,.vptr [.i b.f0,.str b.f1,q32 b.f2,.bool b.f3,.bool b.f4,w9 b.f5,w9 b.f6]),(136,q32 g.f2),(135,.ptr 0 7 2),(134,.bool false),(133,.bool false),(132,.bool false),(131,.i (fW .i64 ((fW .u64 m).tmod 4))),(130,.i (a.f2.n:Int)),(129,q32 a.f2),(128,.vptr [q32 a.f2,.bool a.f3,.bool a.f4,w9 a.f5,w9 a.f6]),(127,.vptr [.i a.f0,.str a.f1,q32 a.f2,.bool a.f3,.bool a.f4,w9 a.f5,w9 a.f6]),(126,q32 g.f2),(125,.ptr 0 7 2),(124,.bool false),(123,.bool false),(122,.bool false),(121,.i (g.f2.n:Int)),(120,q32 g.f2),(119,.ptr 0 7 2),(118,.bool false),(117,.bool false),(116,.str g.f1),(115,.ptr 0 7 1),(0,w4 o),(5,.i (fW .i64 ((fW .u64 m).tmod 4))),(11,w32 j),(12,.i h),(13,.ptr 0 7 0)]) V (oDr 6 44 A (qAa (l':=(opsAt g4p38).toList.drop 45) (eE:=((159,.vptr [.bool l])::A)) (hs:=[]) (x:=l) (λ(l:Bool)=>(.vptr [.bool l],(mkH [⟨e32 g,7,false⟩]))) (vidxH (sz:=1) e4_len Kr) O Kr (oDr 2 47 ((161,.bool l)::(160,.bool l)::(159,.vptr [.bool l])::A) (oDe (λz=>((161,.bool z)::(160,.bool z)::(159,.vptr [.bool l])::A)) Y (oDr 6 53 a5 (oDe (λz=>[(167,.bool z),(166,.bool z),(165,.bool z),(164,.bool false),(163,.tuple []),(162,.tuple []),(161,.bool false),(160,.bool false),(159,.vptr [.bool l]),(158,.i h),(157,w4 o),(156,.bool (decide ((g.f5.length:Int)=1))),(155,.i (g.f5.length:Int)),(154,w9 g.f5),(153,.ptr 0 7 5),(152,.bool false),(151,.bool false),(150,.bool false),(149,.i (c.f2.n:Int)),(148,q32 c.f2),(147,.vptr [q32 c.f2,.bool c.f3,.bool c.f4,w9 c.f5,w9 c.f6]),(146,.vptr [.i c.f0,.str c.f1,q32 c.f2,.bool c.f3,.bool c.f4,w9 c.f5,w9 c.f6]),(145,q32 g.f2),(144,.ptr 0 7 2),(143,.bool false),(142,.bool false),(141,.bool false),(140,.i (b.f2.n:Int)),(139,q32 b.f2),(138,.vptr [q32 b.f2,.bool b.f3,.bool b.f4,w9 b.f5,w9 b.f6]),(137,.vptr [.i b.f0,.str b.f1,q32 b.f2,.bool b.f3,.bool b.f4,w9 b.f5,w9 b.f6]),(136,q32 g.f2),(135,.ptr 0 7 2),(134,.bool false),(133,.bool false),(132,.bool false),(131,.i (fW .i64 ((fW .u64 m).tmod 4))),(130,.i (a.f2.n:Int)),(129,q32 a.f2),(128,.vptr [q32 a.f2,.bool a.f3,.bool a.f4,w9 a.f5,w9 a.f6]),(127,.vptr [.i a.f0,.str a.f1,q32 a.f2,.bool a.f3,.bool a.f4,w9 a.f5,w9 a.f6]),(126,q32 g.f2),(125,.ptr 0 7 2),(124,.bool false),(123,.bool false),(122,.bool false),(121,.i (g.f2.n:Int)),(120,q32 g.f2),(119,.ptr 0 7 2),(118,.bool false),(117,.bool false),(116,.str g.f1),(115,.ptr 0 7 1),(0,w4 o),(5,.i (fW .i64 ((fW .u64 m).tmod 4))),(11,w32 j),(12,.i h),(13,.ptr 0 7 0)]) U (oDr 3 56 b5 .nil))))))))))))))))))))))) ?_
           refine oK [0,5,11,12,170] [(0,w4 o),(5,.i (fW .i64 ((fW .u64 m).tmod 4))),(11,w32 j),(12,.i h),(170,.bool true)] ?_
           refine qA9 [] [⟨e32 g,7,false⟩] Kr rfl Kr trivial ?_
           exact J (true,h)
          ·let D:Env:=[(118,.bool (!(eqL g.f1 [102]))),(117,.bool (!(eqL g.f1 [102]))),(116,.str g.f1),(115,.ptr 0 7 1),(0,w4 o),(5,.i (fW .i64 ((fW .u64 m).tmod 4))),(11,w32 j),(12,.i h),(13,.ptr 0 7 0)]
           let G:Env:=[(124,.bool (!decide ((g.f2.n:Int)=3))),(123,.bool (!decide ((g.f2.n:Int)=3))),(122,.bool (!decide ((g.f2.n:Int)=3))),(121,.i (g.f2.n:Int)),(120,q32 g.f2),(119,.ptr 0 7 2),(118,.bool false),(117,.bool false),(116,.str g.f1),(115,.ptr 0 7 1),(0,w4 o),(5,.i (fW .i64 ((fW .u64 m).tmod 4))),(11,w32 j),(12,.i h),(13,.ptr 0 7 0)]
           let r:Env:=[(126,q32 g.f2),(125,.ptr 0 7 2),(124,.bool false),(123,.bool false),(122,.bool false),(121,.i (g.f2.n:Int)),(120,q32 g.f2),(119,.ptr 0 7 2),(118,.bool false),(117,.bool false),(116,.str g.f1),(115,.ptr 0 7 1),(0,w4 o),(5,.i (fW .i64 ((fW .u64 m).tmod 4))),(11,w32 j),(12,.i h),(13,.ptr 0 7 0)]
           let M:Env:=((134,.bool (!decide ((a.f2.n:Int)=fW .i64 ((fW .u64 m).tmod 4))))::(133,.bool (!decide ((a.f2.n:Int)=fW .i64 ((fW .u64 m).tmod 4))))::(132,.bool (!decide ((a.f2.n:Int)=fW .i64 ((fW .u64 m).tmod 4))))::(131,.i (fW .i64 ((fW .u64 m).tmod 4)))::(130,.i (a.f2.n:Int))::(129,q32 a.f2)::(128,.vptr [q32 a.f2,.bool a.f3,.bool a.f4,w9 a.f5,w9 a.f6])::(127,.vptr [.i a.f0,.str a.f1,q32 a.f2,.bool a.f3,.bool a.f4,w9 a.f5,w9 a.f6])::r)
           let u:Env:=[(136,q32 g.f2),(135,.ptr 0 7 2),(134,.bool false),(133,.bool false),(132,.bool false),(131,.i (fW .i64 ((fW .u64 m).tmod 4))),(130,.i (a.f2.n:Int)),(129,q32 a.f2),(128,.vptr [q32 a.f2,.bool a.f3,.bool a.f4,w9 a.f5,w9 a.f6]),(127,.vptr [.i a.f0,.str a.f1,q32 a.f2,.bool a.f3,.bool a.f4,w9 a.f5,w9 a.f6]),(126,q32 g.f2),(125,.ptr 0 7 2),(124,.bool false),(123,.bool false),(122,.bool false),(121,.i (g.f2.n:Int)),(120,q32 g.f2),(119,.ptr 0 7 2),(118,.bool false),(117,.bool false),(116,.str g.f1),(115,.ptr 0 7 1),(0,w4 o),(5,.i (fW .i64 ((fW .u64 m).tmod 4))),(11,w32 j),(12,.i h),(13,.ptr 0 7 0)]
           let T:Env:=((143,.bool (!decide ((b.f2.n:Int)=1)))::(142,.bool (!decide ((b.f2.n:Int)=1)))::(141,.bool (!decide ((b.f2.n:Int)=1)))::(140,.i (b.f2.n:Int))::(139,q32 b.f2)::(138,.vptr [q32 b.f2,.bool b.f3,.bool b.f4,w9 b.f5,w9 b.f6])::(137,.vptr [.i b.f0,.str b.f1,q32 b.f2,.bool b.f3,.bool b.f4,w9 b.f5,w9 b.f6])::u)
           let C:Env:=[(145,q32 g.f2),(144,.ptr 0 7 2),(143,.bool false),(142,.bool false),(141,.bool false),(140,.i (b.f2.n:Int)),(139,q32 b.f2),(138,.vptr [q32 b.f2,.bool b.f3,.bool b.f4,w9 b.f5,w9 b.f6]),(137,.vptr [.i b.f0,.str b.f1,q32 b.f2,.bool b.f3,.bool b.f4,w9 b.f5,w9 b.f6]),(136,q32 g.f2),(135,.ptr 0 7 2),(134,.bool false),(133,.bool false),(132,.bool false),(131,.i (fW .i64 ((fW .u64 m).tmod 4))),(130,.i (a.f2.n:Int)),(129,q32 a.f2),(128,.vptr [q32 a.f2,.bool a.f3,.bool a.f4,w9 a.f5,w9 a.f6]),(127,.vptr [.i a.f0,.str a.f1,q32 a.f2,.bool a.f3,.bool a.f4,w9 a.f5,w9 a.f6]),(126,q32 g.f2),(125,.ptr 0 7 2),(124,.bool false),(123,.bool false),(122,.bool false),(121,.i (g.f2.n:Int)),(120,q32 g.f2),(119,.ptr 0 7 2),(118,.bool false),(117,.bool false),(116,.str g.f1),(115,.ptr 0 7 1),(0,w4 o),(5,.i (fW .i64 ((fW .u64 m).tmod 4))),(11,w32 j),(12,.i h),(13,.ptr 0 7 0)]
           let W:Env:=((152,.bool (!decide ((c.f2.n:Int)=2)))::(151,.bool (!decide ((c.f2.n:Int)=2)))::(150,.bool (!decide ((c.f2.n:Int)=2)))::(149,.i (c.f2.n:Int))::(148,q32 c.f2)::(147,.vptr [q32 c.f2,.bool c.f3,.bool c.f4,w9 c.f5,w9 c.f6])::(146,.vptr [.i c.f0,.str c.f1,q32 c.f2,.bool c.f3,.bool c.f4,w9 c.f5,w9 c.f6])::C)
           let A:Env:=[(158,.i h),(157,w4 o),(156,.bool (decide ((g.f5.length:Int)=1))),(155,.i (g.f5.length:Int)),(154,w9 g.f5),(153,.ptr 0 7 5),(152,.bool false),(151,.bool false),(150,.bool false),(149,.i (c.f2.n:Int)),(148,q32 c.f2),(147,.vptr [q32 c.f2,.bool c.f3,.bool c.f4,w9 c.f5,w9 c.f6]),(146,.vptr [.i c.f0,.str c.f1,q32 c.f2,.bool c.f3,.bool c.f4,w9 c.f5,w9 c.f6]),(145,q32 g.f2),(144,.ptr 0 7 2),(143,.bool false),(142,.bool false),(141,.bool false),(140,.i (b.f2.n:Int)),(139,q32 b.f2),(138,.vptr [q32 b.f2,.bool b.f3,.bool b.f4,w9 b.f5,w9 b.f6]),(137,.vptr [.i b.f0,.str b.f1,q32 b.f2,.bool b.f3,.bool b.f4,w9 b.f5,w9 b.f6]),(136,q32 g.f2),(135,.ptr 0 7 2),(134,.bool false),(133,.bool false),(132,.bool false),(131,.i (fW .i64 ((fW .u64 m).tmod 4))),(130,.i (a.f2.n:Int)),(129,q32 a.f2),(128,.vptr [q32 a.f2,.bool a.f3,.bool a.f4,w9 a.f5,w9 a.f6]),(127,.vptr [.i a.f0,.str a.f1,q32 a.f2,.bool a.f3,.bool a.f4,w9 a.f5,w9 a.f6]),(126,q32 g.f2),(125,.ptr 0 7 2),(124,.bool false),(123,.bool false),(122,.bool false),(121,.i (g.f2.n:Int)),(120,q32 g.f2),(119,.ptr 0 7 2),(118,.bool false),(117,.bool false),(116,.str g.f1),(115,.ptr 0 7 1),(0,w4 o),(5,.i (fW .i64 ((fW .u64 m).tmod 4))),(11,w32 j),(12,.i h),(13,.ptr 0 7 0)]
           let a5:Env:=((167,.bool (!(decide ((g.f5.length:Int)=1) == false)))::(166,.bool (!(decide ((g.f5.length:Int)=1) == false)))::(165,.bool (!(decide ((g.f5.length:Int)=1) == false)))::(164,.bool false)::(163,.tuple [])::(162,.tuple [])::(161,.bool false)::(160,.bool false)::(159,.vptr [.bool l])::A)
           let b6:Env:=[(170,.bool g.f4),(169,.bool g.f4),(168,.ptr 0 7 4),(167,.bool false),(166,.bool false),(165,.bool false),(164,.bool false),(163,.tuple []),(162,.tuple []),(161,.bool false),(160,.bool false),(159,.vptr [.bool l]),(158,.i h),(157,w4 o),(156,.bool (decide ((g.f5.length:Int)=1))),(155,.i (g.f5.length:Int)),(154,w9 g.f5),(153,.ptr 0 7 5),(152,.bool false),(151,.bool false),(150,.bool false),(149,.i (c.f2.n:Int)),(148,q32 c.f2),(147,.vptr [q32 c.f2,.bool c.f3,.bool c.f4,w9 c.f5,w9 c.f6]),(146,.vptr [.i c.f0,.str c.f1,q32 c.f2,.bool c.f3,.bool c.f4,w9 c.f5,w9 c.f6]),(145,q32 g.f2),(144,.ptr 0 7 2),(143,.bool false),(142,.bool false),(141,.bool false),(140,.i (b.f2.n:Int)),(139,q32 b.f2),(138,.vptr [q32 b.f2,.bool b.f3,.bool b.f4,w9 b.f5,w9 b.f6]),(137,.vptr [.i b.f0,.str b.f1,q32 b.f2,.bool b.f3,.bool b.f4,w9 b.f5,w9 b.f6]),(136,q32 g.f2),(135,.ptr 0 7 2),(134,.bool false),(133,.bool false),(132,.bool false),(131,.i (fW .i64 ((fW .u64 m).tmod 4))),(130,.i (a.f2.n:Int)),(129,q32 a.f2),(128,.vptr [q32 a.f2,.bool a.f3,.bool a.f4,w9 a.f5,w9 a.f6]),(127,.vptr [.i a.f0,.str a.f1,q32 a.f2,.bool a.f3,.bool a.f4,w9 a.f5,w9 a.f6]),(126,q32 g.f2),(125,.ptr 0 7 2),(124,.bool false),(123,.bool false),(122,.bool false),(121,.i (g.f2.n:Int)),(120,q32 g.f2),(119,.ptr 0 7 2),(118,.bool false),(117,.bool false),(116,.str g.f1),(115,.ptr 0 7 1),(0,w4 o),(5,.i (fW .i64 ((fW .u64 m).tmod 4))),(11,w32 j),(12,.i h),(13,.ptr 0 7 0)]
           refine oD (H':=(mkH [⟨e32 g,7,false⟩])) (nav [0] g4p38) b6 [] g4d0 (oDr 4 4 D (oDe (λz=>[(118,.bool z),(117,.bool z),(116,.str g.f1),(115,.ptr 0 7 1),(0,w4 o),(5,.i (fW .i64 ((fW .u64 m).tmod 4))),(11,w32 j),(12,.i h),(13,.ptr 0 7 0)]) F (oDr 6 10 G (oDe (λz=>[(124,.bool z),(123,.bool z),(122,.bool z),(121,.i (g.f2.n:Int)),(120,q32 g.f2),(119,.ptr 0 7 2),(118,.bool false),(117,.bool false),(116,.str g.f1),(115,.ptr 0 7 1),(0,w4 o),(5,.i (fW .i64 ((fW .u64 m).tmod 4))),(11,w32 j),(12,.i h),(13,.ptr 0 7 0)]) K (oDr 2 12 r (qAe (l':=(opsAt g4p38).toList.drop 13) (eE:=((127,.vptr [.i a.f0,.str a.f1,q32 a.f2,.bool a.f3,.bool a.f4,w9 a.f5,w9 a.f6])::r)) (hs:=[]) (x:=a) (λ(a:S31)=>(.vptr [.i a.f0,.str a.f1,q32 a.f2,.bool a.f3,.bool a.f4,w9 a.f5,w9 a.f6],(mkH [⟨e32 g,7,false⟩]))) (vidxR (sz:=7) qBi B Kr) Kr (oDr 7 20 M (oDe (λz=>[(134,.bool z),(133,.bool z),(132,.bool z),(131,.i (fW .i64 ((fW .u64 m).tmod 4))),(130,.i (a.f2.n:Int)),(129,q32 a.f2),(128,.vptr [q32 a.f2,.bool a.f3,.bool a.f4,w9 a.f5,w9 a.f6]),(127,.vptr [.i a.f0,.str a.f1,q32 a.f2,.bool a.f3,.bool a.f4,w9 a.f5,w9 a.f6]),(126,q32 g.f2),(125,.ptr 0 7 2),(124,.bool false),(123,.bool false),(122,.bool false),(121,.i (g.f2.n:Int)),(120,q32 g.f2),(119,.ptr 0 7 2),(118,.bool false),(117,.bool false),(116,.str g.f1),(115,.ptr 0 7 1),(0,w4 o),(5,.i (fW .i64 ((fW .u64 m).tmod 4))),(11,w32 j),(12,.i h),(13,.ptr 0 7 0)]) N (oDr 2 22 u (qAe (l':=(opsAt g4p38).toList.drop 23) (eE:=((137,.vptr [.i b.f0,.str b.f1,q32 b.f2,.bool b.f3,.bool b.f4,w9 b.f5,w9 b.f6])::u)) (hs:=[]) (x:=b) (λ(b:S31)=>(.vptr [.i b.f0,.str b.f1,q32 b.f2,.bool b.f3,.bool b.f4,w9 b.f5,w9 b.f6],(mkH [⟨e32 g,7,false⟩]))) (vidxR (sz:=7) qBi E Kr) Kr (oDr 6 29 T (oDe (λz=>[(143,.bool z),(142,.bool z),(141,.bool z),(140,.i (b.f2.n:Int)),(139,q32 b.f2),(138,.vptr [q32 b.f2,.bool b.f3,.bool b.f4,w9 b.f5,w9 b.f6]),(137,.vptr [.i b.f0,.str b.f1,q32 b.f2,.bool b.f3,.bool b.f4,w9 b.f5,w9 b.f6]),(136,q32 g.f2),(135,.ptr 0 7 2),(134,.bool false),(133,.bool false),(132,.bool false),(131,.i (fW .i64 ((fW .u64 m).tmod 4))),(130,.i (a.f2.n:Int)),(129,q32 a.f2),(128,.vptr [q32 a.f2,.bool a.f3,.bool a.f4,w9 a.f5,w9 a.f6]),(127,.vptr [.i a.f0,.str a.f1,q32 a.f2,.bool a.f3,.bool a.f4,w9 a.f5,w9 a.f6]),(126,q32 g.f2),(125,.ptr 0 7 2),(124,.bool false),(123,.bool false),(122,.bool false),(121,.i (g.f2.n:Int)),(120,q32 g.f2),(119,.ptr 0 7 2),(118,.bool false),(117,.bool false),(116,.str g.f1),(115,.ptr 0 7 1),(0,w4 o),(5,.i (fW .i64 ((fW .u64 m).tmod 4))),(11,w32 j),(12,.i h),(13,.ptr 0 7 0)]) S (oDr 2 31 C (qAe (l':=(opsAt g4p38).toList.drop 32) (eE:=((146,.vptr [.i c.f0,.str c.f1,q32 c.f2,.bool c.f3,.bool c.f4,w9 c.f5,w9 c.f6])::C)) (hs:=[]) (x:=c) (λ(c:S31)=>(.vptr [.i c.f0,.str c.f1,q32 c.f2,.bool c.f3,.bool c.f4,w9 c.f5,w9 c.f6],(mkH [⟨e32 g,7,false⟩]))) (vidxR (sz:=7) qBi L Kr) Kr (oDr 6 38 W (oDe (λz=>[(152,.bool z),(151,.bool z),(150,.bool z),(149,.i (c.f2.n:Int)),(148,q32 c.f2),(147,.vptr [q32 c.f2,.bool c.f3,.bool c.f4,w9 c.f5,w9 c.f6]),(146,.vptr [.i c.f0,.str c.f1,q32 c.f2,.bool c.f3,.bool c.f4,w9 c.f5,w9 c.f6]),(145,q32 g.f2),(144,.ptr 0 7 2),(143,.bool false),(142,.bool false),(141,.bool false),(140,.i (b.f2.n:Int)),(139,q32 b.f2),(138,.vptr [q32 b.f2,.bool b.f3,.bool b.f4,w9 b.f5,w9 b.f6]),(137,.vptr [.i b.f0,.str b.f1,q32 b.f2,.bool b.f3,.bool b.f4,w9 b.f5,w9 b.f6]),(136,q32 g.f2),(135,.ptr 0 7 2),(134,.bool false),(133,.bool false),(132,.bool false),(131,.i (fW .i64 ((fW .u64 m).tmod 4))),(130,.i (a.f2.n:Int)),(129,q32 a.f2),(128,.vptr [q32 a.f2,.bool a.f3,.bool a.f4,w9 a.f5,w9 a.f6]),(127,.vptr [.i a.f0,.str a.f1,q32 a.f2,.bool a.f3,.bool a.f4,w9 a.f5,w9 a.f6]),(126,q32 g.f2),(125,.ptr 0 7 2),(124,.bool false),(123,.bool false),(122,.bool false),(121,.i (g.f2.n:Int)),(120,q32 g.f2),(119,.ptr 0 7 2),(118,.bool false),(117,.bool false),(116,.str g.f1),(115,.ptr 0 7 1),(0,w4 o),(5,.i (fW .i64 ((fW .u64 m).tmod 4))),(11,w32 j),(12,.i h),(13,.ptr 0 7 0)]) V (oDr 6 44 A (qAa (l':=(opsAt g4p38).toList.drop 45) (eE:=((159,.vptr [.bool l])::A)) (hs:=[]) (x:=l) (λ(l:Bool)=>(.vptr [.bool l],(mkH [⟨e32 g,7,false⟩]))) (vidxH (sz:=1) e4_len Kr) O Kr (oDr 2 47 ((161,.bool l)::(160,.bool l)::(159,.vptr [.bool l])::A) (oDe (λz=>((161,.bool z)::(160,.bool z)::(159,.vptr [.bool l])::A)) Y (oDr 6 53 a5 (oDe (λz=>[(167,.bool z),(166,.bool z),(165,.bool z),(164,.bool false),(163,.tuple []),(162,.tuple []),(161,.bool false),(160,.bool false),(159,.vptr [.bool l]),(158,.i h),(157,w4 o),(156,.bool (decide ((g.f5.length:Int)=1))),(155,.i (g.f5.length:Int)),(154,w9 g.f5),(153,.ptr 0 7 5),(152,.bool false),(151,.bool false),(150,.bool false),(149,.i (c.f2.n:Int)),(148,q32 c.f2),(147,.vptr [q32 c.f2,.bool c.f3,.bool c.f4,w9 c.f5,w9 c.f6]),(146,.vptr [.i c.f0,.str c.f1,q32 c.f2,.bool c.f3,.bool c.f4,w9 c.f5,w9 c.f6]),(145,q32 g.f2),(144,.ptr 0 7 2),(143,.bool false),(142,.bool false),(141,.bool false),(140,.i (b.f2.n:Int)),(139,q32 b.f2),(138,.vptr [q32 b.f2,.bool b.f3,.bool b.f4,w9 b.f5,w9 b.f6]),(137,.vptr [.i b.f0,.str b.f1,q32 b.f2,.bool b.f3,.bool b.f4,w9 b.f5,w9 b.f6]),(136,q32 g.f2),(135,.ptr 0 7 2),(134,.bool false),(133,.bool false),(132,.bool false),(131,.i (fW .i64 ((fW .u64 m).tmod 4))),(130,.i (a.f2.n:Int)),(129,q32 a.f2),(128,.vptr [q32 a.f2,.bool a.f3,.bool a.f4,w9 a.f5,w9 a.f6]),(127,.vptr [.i a.f0,.str a.f1,q32 a.f2,.bool a.f3,.bool a.f4,w9 a.f5,w9 a.f6]),(126,q32 g.f2),(125,.ptr 0 7 2),(124,.bool false),(123,.bool false),(122,.bool false),(121,.i (g.f2.n:Int)),(120,q32 g.f2),(119,.ptr 0 7 2),(118,.bool false),(117,.bool false),(116,.str g.f1),(115,.ptr 0 7 1),(0,w4 o),(5,.i (fW .i64 ((fW .u64 m).tmod 4))),(11,w32 j),(12,.i h),(13,.ptr 0 7 0)]) U (oDr 3 56 b6 .nil))))))))))))))))))))))) ?_
           refine oK [0,5,11,12,170] [(0,w4 o),(5,.i (fW .i64 ((fW .u64 m).tmod 4))),(11,w32 j),(12,.i h),(170,.bool g.f4)] ?_
           refine qA9 [] [⟨e32 g,7,false⟩] Kr rfl Kr trivial ?_
           exact J (g.f4,h)
  ·refine oR 4 (atN 0 (ctl1 g4p35)) ((105,.bool false)::a2) ?_
   refine oA (λ(a3:Bool) => .bool a3) (atN 1 (ctl1 g4p35)) 171 [] (g8_ok k ) λa3 c0=>?_
   exact oQ 3
def qF2 (k:Nat)  (x:List Bool) (J:Int) (ih:LN→Int→Option Bool):LN→Int→Option Bool :=
 λ(b:LN) (a:Int)=>if (decide (a < (x.length:Int))) then (jn (λ(g:LN×Int)=>(nthL x g.2).bind λA=>jn (λ(h:LN×Int×Bool)=>jn (λ(B:LN×Int)=>(catS B.1 ([102,40]:LN)).bind λo=>qI4 k ih x J b a k o 0 B.2) (λC=>if h.2.2 then ((catS h.1 ([37,110,10]:LN)).bind λq=>C (q,h.2.1)) else (C (h.1,h.2.1)))) (λD=>if A then (D (g.1,g.2,decide (0 < g.2))) else (D (g.1,g.2,false)))) (λE=>if (decide (0 < a)) then ((catS b ([59,10]:LN)).bind λr=>E (r,a)) else (E (b,a)))) else ((catS b ([46]:LN)).bind λj=>(g6 k j).bind λm=>(g7 k j m.1).bind λc=>jn (λ(G:Bool)=>if G then (some false) else (qI3 k x J c k 0)) (λl=>if (!decide (m.2=0)) then (l true) else (if (!decide ((c.length:Int)=1)) then (l true) else ((nthL c 0).bind λF=>if (!decide (F.f0=28)) then (l true) else ((nthL c 0).bind λu=>l (!decide ((u.f2.n:Int)=(x.length:Int))))))))
def qG5 (k:Nat)  (a:List Bool) (b:Int) (n:Nat):LN→Int→Option Bool:=lp (λ_ _=>none) (qF2 k a b) n
theorem qPl (k:Nat)   (m:List Bool) (r:Int)  : ∀ (n:Nat) (h:LN) (b:Int),Ok Xg4 g4p8 [(0,w4 m),(5,.i (fW .i64 ((fW .u64 r).tmod 4))),(6,.str h),(7,.i b)] (mkH []) (qG5 k m r n h b):=by
 intro n
 induction n with
 | zero=>intro h b; exact ok_none
 | succ n ih =>
  intro h b
  show Ok _ _ _ _ (qF2 k m r (qG5 k m r n) h b)
  unfold qF2
  refine qAk (p':=nav [0] g4p8) Kr ?_
  let V:Env:=[(30,.bool (decide (b < (m.length:Int)))),(29,.i (m.length:Int)),(28,w4 m),(27,.i b),(0,w4 m),(5,.i (fW .i64 ((fW .u64 r).tmod 4))),(6,.str h),(7,.i b)]
  refine oH 8 g4p10 V (mkH []) ?_
  refine oS 30 (λD=>?_) (λD=>?_)
  ·refine oR 10 g4p13 ((34,.bool (decide (0 < b)))::(33,.i b)::(30,.bool true)::V) ?_
   refine oJ g4p16 (λ(o:LN×Int)=>[(0,w4 m),(5,.i (fW .i64 ((fW .u64 r).tmod 4))),(6,.str o.1),(7,.i o.2)]) (λ(o:LN×Int)=>(mkH [])) (λo=>?_) (λb1 F=>?_)
   ·let E6:Env:=[(38,.i o.2),(37,w4 m),(0,w4 m),(5,.i (fW .i64 ((fW .u64 r).tmod 4))),(6,.str o.1),(7,.i o.2)]
    refine oH 3 (atN 2 (ctl1 g4p16)) E6 (mkH []) ?_
    refine oC (λ(C:Bool)=>(.vptr [.bool C],(mkH []))) (atN 3 (ctl1 g4p16)) 39 (vidxH (sz:=1) e4_len Kr) λC a4=>?_
    refine oH 2 (atN 5 (ctl1 g4p16)) ((41,.bool C)::(40,.bool C)::(39,.vptr [.bool C])::E6) (mkH []) ?_
    refine oJ g4p18 (λ(q:LN×Int×Bool)=>[(0,w4 m),(5,.i (fW .i64 ((fW .u64 r).tmod 4))),(6,.str q.1),(7,.i q.2.1),(44,.bool q.2.2)]) (λ(q:LN×Int×Bool)=>(mkH [])) (λq=>?_) (λb2 G=>?_)
    ·refine oJ g4p21 (λ(B:LN×Int)=>[(0,w4 m),(5,.i (fW .i64 ((fW .u64 r).tmod 4))),(6,.str B.1),(7,.i B.2)]) (λ(B:LN×Int)=>(mkH [])) (λB=>?_) (λb3 J=>?_)
     ·let E7:Env:=[(47,.str B.1),(0,w4 m),(5,.i (fW .i64 ((fW .u64 r).tmod 4))),(6,.str B.1),(7,.i B.2)]
      refine oH 2 (atN 1 (ctl1 g4p21)) E7 (mkH []) ?_
      refine oC (λ(u:LN)=>(.str u,(mkH []))) (atN 2 (ctl1 g4p21)) 48 (catH Kr) λu W=>?_
      refine oH 9 g4p26 ((8,.i 0)::(6,.str u)::(48,.str u)::E7) (mkH []) ?_
      refine oK [0,5,6,7,8] [(0,w4 m),(5,.i (fW .i64 ((fW .u64 r).tmod 4))),(6,.str u),(7,.i B.2),(8,.i 0)] ?_
      exact (qPk k (qG5 k m r n) m r h b ih k) u 0 B.2
     ·refine oS 44 (λD=>?_) (λD=>?_)
      ·let N:Env:=[(45,.str q.1),(44,.bool true),(0,w4 m),(5,.i (fW .i64 ((fW .u64 r).tmod 4))),(6,.str q.1),(7,.i q.2.1),(44,.bool q.2.2)]
       refine oH 3 (atN 1 (ctl1 g4p20)) N (mkH []) ?_
       refine oC (λ(x:LN)=>(.str x,(mkH []))) (atN 2 (ctl1 g4p20)) 46 (catH Kr) λx Y=>?_
       refine oH 3 g4p21 ((6,.str x)::(46,.str x)::N) (mkH []) ?_
       refine oK [0,5,6,7] [(0,w4 m),(5,.i (fW .i64 ((fW .u64 r).tmod 4))),(6,.str x),(7,.i q.2.1)] ?_
       exact J (x,q.2.1)
      ·refine oLH 3 g4p21 [(0,w4 m),(5,.i (fW .i64 ((fW .u64 r).tmod 4))),(6,.str q.1),(7,.i q.2.1)] (mkH []) ?_
       exact J (q.1,q.2.1)
    ·refine oS 41 (λD=>?_) (λD=>?_)
     ·refine oLH 4 g4p18 [(0,w4 m),(5,.i (fW .i64 ((fW .u64 r).tmod 4))),(6,.str o.1),(7,.i o.2),(44,.bool (decide (0 < o.2)))] (mkH []) ?_
      exact G (o.1,o.2,decide (0 < o.2))
     ·refine oLH 4 g4p18 [(0,w4 m),(5,.i (fW .i64 ((fW .u64 r).tmod 4))),(6,.str o.1),(7,.i o.2),(44,.bool false)] (mkH []) ?_
      exact G (o.1,o.2,false)
   ·refine oS 34 (λD=>?_) (λD=>?_)
    ·let O:Env:=((35,.str h)::(34,.bool true)::(34,.bool (decide (0 < b)))::(33,.i b)::(30,.bool true)::V)
     refine oH 3 (atN 1 (ctl1 g4p15)) O (mkH []) ?_
     refine oC (λ(A:LN)=>(.str A,(mkH []))) (atN 2 (ctl1 g4p15)) 36 (catH Kr) λA Z=>?_
     refine oH 4 g4p16 ((6,.str A)::(36,.str A)::O) (mkH []) ?_
     refine oK [0,5,6,7] [(0,w4 m),(5,.i (fW .i64 ((fW .u64 r).tmod 4))),(6,.str A),(7,.i b)] ?_
     exact F (A,b)
    ·refine oLH 4 g4p16 [(0,w4 m),(5,.i (fW .i64 ((fW .u64 r).tmod 4))),(6,.str h),(7,.i b)] (mkH []) ?_
     exact F (h,b)
  ·refine oR 5 (atN 1 (ctl1 g4p12)) ((68,.str h)::(30,.bool false)::V) ?_
   refine oC (λ(j:LN)=>(.str j,(mkH []))) (atN 2 (ctl1 g4p12)) 69 (catH Kr) λj a2=>?_
   refine oLH 3 g4p14 [(0,w4 m),(5,.i (fW .i64 ((fW .u64 r).tmod 4))),(6,.str j)] (mkH []) ?_
   let S:Env:=[(0,w4 m),(5,.i (fW .i64 ((fW .u64 r).tmod 4))),(6,.str j)]
   refine oR 2 (atN 1 (ctl1 g4p14)) ((71,.str j)::S) ?_
   refine oA (λ(g:((List S38)×Int)) => .tuple [w39 g.1,.i g.2]) (atN 2 (ctl1 g4p14)) 72 [.str j] (g6_ok k j) λg a5=>?_
   let K:Env:=((76,w39 g.1)::(75,.str j)::(10,.i g.2)::(9,w39 g.1)::(74,.i g.2)::(73,w39 g.1)::(70,.tuple [w39 g.1,.i g.2])::(72,.tuple [w39 g.1,.i g.2])::(71,.str j)::S)
   refine oR 10 (atN 2 (ctl1 g4p17)) K ?_
   refine oA (λ(c:List S31)=>w32 c) (atN 3 (ctl1 g4p17)) 77 [.str j,w39 g.1] (g7_ok k j g.1) λc a6=>?_
   refine oR 4 g4p19 ((11,w32 c)::(77,w32 c)::K) ?_
   refine oK0 [0,5,10,11] ?_
   let T:Env:=keepOnly ((11,w32 c)::(77,w32 c)::K) [0,5,10,11]
   refine oR 4 (atN 3 (ctl1 g4p19)) ((80,.bool (!decide (g.2=0)))::(79,.bool (!decide (g.2=0)))::(78,.i g.2)::T) ?_
   refine oJ g4p22 (λ(L:Bool)=>[(0,w4 m),(5,.i (fW .i64 ((fW .u64 r).tmod 4))),(11,w32 c),(101,.bool L)]) (λ(L:Bool)=>(mkH [])) (λL=>?_) (λb4 E=>?_)
   ·refine oS 101 (λD=>?_) (λD=>?_)
    ·exact oQ 6
    ·refine oLH 9 g4p27 [(0,w4 m),(5,.i (fW .i64 ((fW .u64 r).tmod 4))),(11,w32 c),(12,.i 0)] (mkH []) ?_
     exact (qPj k m r c k) 0
   ·refine oS 80 (λD=>?_) (λD=>?_)
    ·refine oLH 22 g4p22 [(0,w4 m),(5,.i (fW .i64 ((fW .u64 r).tmod 4))),(11,w32 c),(101,.bool true)] (mkH []) ?_
     exact E true
    ·let M:Env:=((85,.bool (!decide ((c.length:Int)=1)))::(84,.bool (!decide ((c.length:Int)=1)))::(83,.bool (!decide ((c.length:Int)=1)))::(82,.i (c.length:Int))::(81,w32 c)::(80,.bool false)::(80,.bool (!decide (g.2=0)))::(79,.bool (!decide (g.2=0)))::(78,.i g.2)::T)
     refine oH 5 (atN 8 (ctl1 g4p19)) M (mkH []) ?_
     refine oS 85 (λD=>?_) (λD=>?_)
     ·refine oL 17 g4p22 [(0,w4 m),(5,.i (fW .i64 ((fW .u64 r).tmod 4))),(11,w32 c),(101,.bool true)] ?_
      exact E true
     ·refine oR 1 (atN 9 (ctl1 g4p19)) ((86,w32 c)::(85,.bool false)::M) ?_
      refine oC (λ(a:S31)=>(.vptr [.i a.f0,.str a.f1,q32 a.f2,.bool a.f3,.bool a.f4,w9 a.f5,w9 a.f6],(mkH []))) (atN 10 (ctl1 g4p19)) 87 (vidxH (sz:=7) qA4 Kr) λa a7=>?_
      let U:Env:=((92,.bool (!decide (a.f0=28)))::(91,.bool (!decide (a.f0=28)))::(90,.bool (!decide (a.f0=28)))::(89,.i a.f0)::(88,.vptr [.i a.f0,.str a.f1,q32 a.f2,.bool a.f3,.bool a.f4,w9 a.f5,w9 a.f6])::(87,.vptr [.i a.f0,.str a.f1,q32 a.f2,.bool a.f3,.bool a.f4,w9 a.f5,w9 a.f6])::(86,w32 c)::(85,.bool false)::M)
      refine oH 5 (atN 15 (ctl1 g4p19)) U (mkH []) ?_
      refine oS 92 (λD=>?_) (λD=>?_)
      ·refine oL 10 g4p22 [(0,w4 m),(5,.i (fW .i64 ((fW .u64 r).tmod 4))),(11,w32 c),(101,.bool true)] ?_
       exact E true
      ·refine oR 1 (atN 16 (ctl1 g4p19)) ((93,w32 c)::(92,.bool false)::U) ?_
       refine oC (λ(l:S31)=>(.vptr [.i l.f0,.str l.f1,q32 l.f2,.bool l.f3,.bool l.f4,w9 l.f5,w9 l.f6],(mkH []))) (atN 17 (ctl1 g4p19)) 94 (vidxH (sz:=7) qA4 Kr) λl a3=>?_
       refine oLH 8 g4p22 [(0,w4 m),(5,.i (fW .i64 ((fW .u64 r).tmod 4))),(11,w32 c),(101,.bool (!decide ((l.f2.n:Int)=(m.length:Int))))] (mkH []) ?_
       exact E (!decide ((l.f2.n:Int)=(m.length:Int)))
def g4 (k:Nat) (c:List Bool) (h:Int):Option Bool :=
 jn (λ(g:Bool)=>if g then ((g8 k).bind λa=>some a) else (qG5 k c h k ([]:LN) 0)) (λb=>if (decide ((c.length:Int) < 1)) then (b true) else (b (decide (6 < (c.length:Int)))))
theorem g4_ok (k:Nat) (a:List Bool) (b:Int) (r:Bool) (h:g4 k a b=some r):PureOk Try.prog 4 [w4 a,.i b] (.bool r):=by
 refine qA6 Xg4 (λ_=>⟨rfl,rfl⟩) Try.func4 (by decide +kernel) Kr (t:=g4 k a b) ?_ h
 unfold g4
 refine qA (eE:=[(0,w4 a),(1,.i b)]) Kr ?_
 refine oH 11 (atN 4 (ctl1 g4p1)) [(17,.bool (decide ((a.length:Int) < 1))),(16,.bool (decide ((a.length:Int) < 1))),(15,.i (a.length:Int)),(14,w4 a),(4,.bool false),(0,w4 a),(1,.i b)] (mkH []) ?_
 refine oJ g4p2 (λ(c:Bool)=>[(0,w4 a),(1,.i b),(21,.bool c)]) (λ(c:Bool)=>(mkH [])) (λc=>?_) (λo g=>?_)
 ·refine oS 21 (λl=>?_) (λl=>?_)
  ·refine oH 3 (atN 0 (ctl1 g4p3)) [(21,.bool true),(0,w4 a),(1,.i b),(21,.bool c)] (mkH []) ?_
   refine oA (λ(j:Bool) => .bool j) (atN 1 (ctl1 g4p3)) 22 [] (g8_ok k ) λj m=>?_
   exact oQ 3
  ·let n:Env:=[(0,w4 a),(5,.i (fW .i64 ((fW .u64 b).tmod 4)))]
   refine oLH 11 g4p6 n (mkH []) ?_
   refine oR 10 g4p8 ((7,.i 0)::(6,.str [])::n) ?_
   refine oK [0,5,6,7] [(0,w4 a),(5,.i (fW .i64 ((fW .u64 b).tmod 4))),(6,.str []),(7,.i 0)] ?_
   exact (qPl k a b k) ([]:LN) 0
 ·refine oS 17 (λl=>?_) (λl=>?_)
  ·refine oLH 5 g4p2 [(0,w4 a),(1,.i b),(21,.bool true)] (mkH []) ?_
   exact g true
  ·refine oLH 5 g4p2 [(0,w4 a),(1,.i b),(21,.bool (decide (6 < (a.length:Int))))] (mkH []) ?_
   exact g (decide (6 < (a.length:Int)))
def okT (s:LN):Bool:=s.all (λb=>Nat.blt b 256) && Nat.blt s.length 350
theorem okT_spec {s:LN} (h:okT s=true):Sz s∧By s∧s.length+40 < 400:=by
 unfold okT at h
 rw [Bool.and_eq_true] at h
 have h2:s.length < 350:=Nat.le_of_ble_eq_true h.2
 exact ⟨by unfold Sz; omega,λb hb=>Nat.le_of_ble_eq_true (List.all_eq_true.1 h.1 b hb),by omega⟩
def wholeF (s:LN):Option (((List S38)×Int)):=bif okT s then some (scanN s) else g6 400 s
theorem qBr (s:LN):g6 400 s=wholeF s:=by
 unfold wholeF
 cases h:okT s with
 | false=>rfl
 | true =>
  obtain ⟨h1,h2,h3⟩:=okT_spec h
  exact rscan_at h3 h2 h1
theorem qEk:g8 400=some true:=by kernel_rfl
def qEj  (c16:LN→Int→Option Bool) (a0:List Bool) (a1:Int) (y16_0:LN) (y16_1:Int) (ih:LN→Int→Int→Option Bool):LN→Int→Int→Option Bool :=
 λ(y21_0:LN) (y21_1:Int) (y21_2:Int)=>jn (λ(z25:LN×Int)=>(catS z25.1 g4c1).bind λx10_1=>c16 x10_1 (fW .i64 (z25.2+1))) (λj25=>if (decide (y21_1 < fW .i64 ((fW .u64 a1).tmod 4))) then (jn (λ(z24:LN×Int×Int)=>(catS z24.1 ([88]:LN)).bind λx9_1=>(toS ([fW .u8 (97+fW .u8 z24.2.1)]:List Int)).bind λx9_6=>(catS x9_1 x9_6).bind λx9_7=>ih x9_7 (fW .i64 (z24.2.1+1)) z24.2.2) (λj24=>if (decide (0 < y21_1)) then ((catS y21_0 ([44,32]:LN)).bind λx8_1=>j24 (x8_1,y21_1,y21_2)) else (j24 (y21_0,y21_1,y21_2)))) else (j25 (y21_0,y21_2)))
theorem qBm:qF1 400=qEj:=by
 delta qF1 qEj
 simp only [qBr,qEk,Option.bind_some]
def qE2  (c16:LN→Int→Option Bool) (a0:List Bool) (a1:Int) (y16_0:LN) (y16_1:Int) (n:Nat):LN→Int→Int→Option Bool:=lp (λ_ _ _=>none) (qEj c16 a0 a1 y16_0 y16_1) n
theorem qC7:qI4 400=qE2:=by
 delta qI4 qE2
 simp only [qBr,qEk,Option.bind_some,qBm]
def qCj   (a0:List Bool) (a1:Int) (x2_2:List S31) (ih:Int→Option Bool):Int→Option Bool :=
 λ(y22_0:Int)=>if (decide (y22_0 < (a0.length:Int))) then ((nthL x2_2 0).bind λx5_1=>(nthR d32 7 x5_1.f2.n x5_1.f2.cells y22_0).bind λx5_5=>jn (λ(z23:Bool×Int)=>if z23.1 then (some false) else (ih (fW .i64 (z23.2+1)))) (λj23=>if (!(eqL x5_5.f1 [102])) then (j23 (true,y22_0)) else (if (!decide ((x5_5.f2.n:Int)=3)) then (j23 (true,y22_0)) else ((nthR d32 7 x5_5.f2.n x5_5.f2.cells 0).bind λx6_12=>if (!decide ((x6_12.f2.n:Int)=fW .i64 ((fW .u64 a1).tmod 4))) then (j23 (true,y22_0)) else ((nthR d32 7 x5_5.f2.n x5_5.f2.cells 1).bind λx6_22=>if (!decide ((x6_22.f2.n:Int)=1)) then (j23 (true,y22_0)) else ((nthR d32 7 x5_5.f2.n x5_5.f2.cells 2).bind λx6_31=>if (!decide ((x6_31.f2.n:Int)=2)) then (j23 (true,y22_0)) else ((nthL a0 y22_0).bind λx6_44=>if x6_44 then (if (!(decide ((x5_5.f5.length:Int)=1) == decide (0 < y22_0))) then (j23 (true,y22_0)) else (j23 (x5_5.f4,y22_0))) else (if (!(decide ((x5_5.f5.length:Int)=1) == false)) then (j23 (true,y22_0)) else (j23 (x5_5.f4,y22_0)))))))))) else (((some true)).bind λx7_0=>some x7_0)
theorem qCi:qF0 400=qCj:=by
 delta qF0 qCj
 simp only [qBr,qEk,Option.bind_some,qBm,qC7]
def qFh   (a0:List Bool) (a1:Int) (x2_2:List S31) (n:Nat):Int→Option Bool:=lp (λ_=>none) (qCj a0 a1 x2_2) n
theorem qE1:qI3 400=qFh:=by
 delta qI3 qFh
 simp only [qBr,qEk,Option.bind_some,qBm,qC7,qCi]
def qCk   (a0:List Bool) (a1:Int) (ih:LN→Int→Option Bool):LN→Int→Option Bool :=
 λ(y16_0:LN) (y16_1:Int)=>if (decide (y16_1 < (a0.length:Int))) then (jn (λ(z17:LN×Int)=>(nthL a0 z17.2).bind λx4_2=>jn (λ(z19:LN×Int×Bool)=>jn (λ(z20:LN×Int)=>(catS z20.1 ([102,40]:LN)).bind λx14_1=>qE2 ih a0 a1 y16_0 y16_1 400 x14_1 0 z20.2) (λj20=>if z19.2.2 then ((catS z19.1 ([37,110,10]:LN)).bind λx13_1=>j20 (x13_1,z19.2.1)) else (j20 (z19.1,z19.2.1)))) (λj19=>if x4_2 then (j19 (z17.1,z17.2,decide (0 < z17.2))) else (j19 (z17.1,z17.2,false)))) (λj17=>if (decide (0 < y16_1)) then ((catS y16_0 ([59,10]:LN)).bind λx11_1=>j17 (x11_1,y16_1)) else (j17 (y16_0,y16_1)))) else ((catS y16_0 ([46]:LN)).bind λx12_1=>(wholeF x12_1).bind λx1_1=>(g7 400 x12_1 x1_1.1).bind λx2_2=>jn (λ(z18:Bool)=>if z18 then (some false) else (qFh a0 a1 x2_2 400 0)) (λj18=>if (!decide (x1_1.2=0)) then (j18 true) else (if (!decide ((x2_2.length:Int)=1)) then (j18 true) else ((nthL x2_2 0).bind λx3_9=>if (!decide (x3_9.f0=28)) then (j18 true) else ((nthL x2_2 0).bind λx3_16=>j18 (!decide ((x3_16.f2.n:Int)=(a0.length:Int))))))))
theorem qFi:qF2 400=qCk:=by
 delta qF2 qCk
 simp only [qBr,qEk,Option.bind_some,qBm,qC7,qCi,qE1]
def qFj   (a0:List Bool) (a1:Int) (n:Nat):LN→Int→Option Bool:=lp (λ_ _=>none) (qCk a0 a1) n
theorem qMw:qG5 400=qFj:=by
 delta qG5 qFj
 simp only [qBr,qEk,Option.bind_some,qBm,qC7,qCi,qE1,qFi]
def Fg4  (a0:List Bool) (a1:Int):Option Bool :=
 jn (λ(z15:Bool)=>if z15 then (((some true)).bind λx0_0=>some x0_0) else (qFj a0 a1 400 ([]:LN) 0)) (λj15=>if (decide ((a0.length:Int) < 1)) then (j15 true) else (j15 (decide (6 < (a0.length:Int)))))
theorem Fg4_eq:g4 400=Fg4:=by
 delta g4 Fg4
 simp only [qBr,qEk,Option.bind_some,qBm,qC7,qCi,qE1,qFi,qMw]
def bls : Nat → List (List Bool)
 | 0=>[[]]
 | n+1=>(bls n).flatMap λl=>[false::l,true::l]
theorem qQl : ∀ l : List Bool, l ∈ bls l.length
 | []=>List.mem_singleton.2 rfl
 | b::l=>by
  refine List.mem_flatMap.2 ⟨l,qQl l,?_⟩
  cases b <;> simp
theorem qDl {b:Bool} {t:List Bool} (y:Int):nthL (b::t) y=if y=0 then some b else nthL t (y - 1):=by
 unfold nthL
 by_cases h:y=0
 ·subst h; rfl
 ·rw [if_neg h]
  by_cases h1:0≤y
  ·rw [if_pos h1,if_pos (by omega)]
   obtain ⟨n,rfl⟩:∃ n:Nat,y=((n+1:Nat):Int):=⟨(y - 1).toNat,by omega⟩
   rw [show ((n+1:Nat):Int).toNat=n+1 by omega,show (((n+1:Nat):Int) - 1).toNat=n by omega]
   rfl
  ·rw [if_neg h1,if_neg (by omega)]
theorem cl_e22 (t:List Bool) (a1:Int) (x:List S31):qCj (true::t) a1 x=qCj (false::t) a1 x:=by
 funext ih y
 unfold qCj
 simp only [jn,List.length_cons]
 by_cases hy:y=0
 ·subst hy
  simp [qDl]
 ·simp only [qDl,if_neg hy]
theorem cl_e16 (t:List Bool) (a1:Int):qCk (true::t) a1=qCk (false::t) a1:=by
 funext ih s y
 unfold qCk qFh
 simp only [jn,List.length_cons,cl_e22]
 have e21:∀ (c:LN→Int→Option Bool) (s:LN) (y:Int),qE2 c (true::t) a1 s y 400=qE2 c (false::t) a1 s y 400:=λ_ _ _=>rfl
 simp only [e21]
 by_cases hy:y=0
 ·subst hy
  simp [qDl]
 ·simp only [qDl,if_neg hy]
theorem cl_first (t:List Bool) (a1:Int) (b:Bool):Fg4 (b::t) a1=Fg4 (false::t) a1:=by
 cases b
 ·rfl
 ·unfold Fg4 qFj
  simp only [List.length_cons,cl_e16]
def clC (t:List Bool):Bool:=(List.range 4).all λj=>isT (Fg4 (false::t) (j:Int))
theorem cl0_0:(((bls 0).drop 0).take 1).all clC=true:=by decide +kernel
theorem cl1_0:(((bls 1).drop 0).take 2).all clC=true:=by decide +kernel
theorem cl2_0:(((bls 2).drop 0).take 4).all clC=true:=by decide +kernel
theorem cl3_0:(((bls 3).drop 0).take 4).all clC=true:=by decide +kernel
theorem cl3_4:(((bls 3).drop 4).take 4).all clC=true:=by decide +kernel
theorem cl4_0:(((bls 4).drop 0).take 4).all clC=true:=by decide +kernel
theorem cl4_4:(((bls 4).drop 4).take 4).all clC=true:=by decide +kernel
theorem cl4_8:(((bls 4).drop 8).take 4).all clC=true:=by decide +kernel
theorem cl4_12:(((bls 4).drop 12).take 4).all clC=true:=by decide +kernel
theorem cl5_0:(((bls 5).drop 0).take 2).all clC=true:=by decide +kernel
theorem cl5_2:(((bls 5).drop 2).take 2).all clC=true:=by decide +kernel
theorem cl5_4:(((bls 5).drop 4).take 2).all clC=true:=by decide +kernel
theorem cl5_6:(((bls 5).drop 6).take 2).all clC=true:=by decide +kernel
theorem cl5_8:(((bls 5).drop 8).take 2).all clC=true:=by decide +kernel
theorem cl5_10:(((bls 5).drop 10).take 2).all clC=true:=by decide +kernel
theorem cl5_12:(((bls 5).drop 12).take 2).all clC=true:=by decide +kernel
theorem cl5_14:(((bls 5).drop 14).take 2).all clC=true:=by decide +kernel
theorem cl5_16:(((bls 5).drop 16).take 2).all clC=true:=by decide +kernel
theorem cl5_18:(((bls 5).drop 18).take 2).all clC=true:=by decide +kernel
theorem cl5_20:(((bls 5).drop 20).take 2).all clC=true:=by decide +kernel
theorem cl5_22:(((bls 5).drop 22).take 2).all clC=true:=by decide +kernel
theorem cl5_24:(((bls 5).drop 24).take 2).all clC=true:=by decide +kernel
theorem cl5_26:(((bls 5).drop 26).take 2).all clC=true:=by decide +kernel
theorem cl5_28:(((bls 5).drop 28).take 2).all clC=true:=by decide +kernel
theorem cl5_30:(((bls 5).drop 30).take 2).all clC=true:=by decide +kernel
theorem qAi {α:Type} {l:List α} {x:α} (i n:Nat) (h:x ∈ l.drop i):x ∈ (l.drop i).take n∨x ∈ l.drop (i+n):=by
 rw [← List.take_append_drop n (l.drop i),List.drop_drop] at h
 exact List.mem_append.1 h
theorem clN0 (t:List Bool) (h:t ∈ bls 0):clC t=true:=by
 have h:t ∈ (bls 0).drop 0:=h
 rcases qAi 0 1 h with h | h
 ·exact List.all_eq_true.1 cl0_0 t h
 ·have h:t ∈ (bls 0).drop 1:=h
  rw [show (bls 0).drop 1=[] from by decide] at h
  cases h
theorem clN1 (t:List Bool) (h:t ∈ bls 1):clC t=true:=by
 have h:t ∈ (bls 1).drop 0:=h
 rcases qAi 0 2 h with h | h
 ·exact List.all_eq_true.1 cl1_0 t h
 ·have h:t ∈ (bls 1).drop 2:=h
  rw [show (bls 1).drop 2=[] from by decide] at h
  cases h
theorem clN2 (t:List Bool) (h:t ∈ bls 2):clC t=true:=by
 have h:t ∈ (bls 2).drop 0:=h
 rcases qAi 0 4 h with h | h
 ·exact List.all_eq_true.1 cl2_0 t h
 ·have h:t ∈ (bls 2).drop 4:=h
  rw [show (bls 2).drop 4=[] from by decide] at h
  cases h
theorem clN3 (t:List Bool) (h:t ∈ bls 3):clC t=true:=by
 have h:t ∈ (bls 3).drop 0:=h
 rcases qAi 0 4 h with h | h
 ·exact List.all_eq_true.1 cl3_0 t h
 rcases qAi 4 4 h with h | h
 ·exact List.all_eq_true.1 cl3_4 t h
 ·have h:t ∈ (bls 3).drop 8:=h
  rw [show (bls 3).drop 8=[] from by decide] at h
  cases h
theorem clN4 (t:List Bool) (h:t ∈ bls 4):clC t=true:=by
 have h:t ∈ (bls 4).drop 0:=h
 rcases qAi 0 4 h with h | h
 ·exact List.all_eq_true.1 cl4_0 t h
 rcases qAi 4 4 h with h | h
 ·exact List.all_eq_true.1 cl4_4 t h
 rcases qAi 8 4 h with h | h
 ·exact List.all_eq_true.1 cl4_8 t h
 rcases qAi 12 4 h with h | h
 ·exact List.all_eq_true.1 cl4_12 t h
 ·have h:t ∈ (bls 4).drop 16:=h
  rw [show (bls 4).drop 16=[] from by decide] at h
  cases h
theorem clN5 (t:List Bool) (h:t ∈ bls 5):clC t=true:=by
 have h:t ∈ (bls 5).drop 0:=h
 rcases qAi 0 2 h with h | h
 ·exact List.all_eq_true.1 cl5_0 t h
 rcases qAi 2 2 h with h | h
 ·exact List.all_eq_true.1 cl5_2 t h
 rcases qAi 4 2 h with h | h
 ·exact List.all_eq_true.1 cl5_4 t h
 rcases qAi 6 2 h with h | h
 ·exact List.all_eq_true.1 cl5_6 t h
 rcases qAi 8 2 h with h | h
 ·exact List.all_eq_true.1 cl5_8 t h
 rcases qAi 10 2 h with h | h
 ·exact List.all_eq_true.1 cl5_10 t h
 rcases qAi 12 2 h with h | h
 ·exact List.all_eq_true.1 cl5_12 t h
 rcases qAi 14 2 h with h | h
 ·exact List.all_eq_true.1 cl5_14 t h
 rcases qAi 16 2 h with h | h
 ·exact List.all_eq_true.1 cl5_16 t h
 rcases qAi 18 2 h with h | h
 ·exact List.all_eq_true.1 cl5_18 t h
 rcases qAi 20 2 h with h | h
 ·exact List.all_eq_true.1 cl5_20 t h
 rcases qAi 22 2 h with h | h
 ·exact List.all_eq_true.1 cl5_22 t h
 rcases qAi 24 2 h with h | h
 ·exact List.all_eq_true.1 cl5_24 t h
 rcases qAi 26 2 h with h | h
 ·exact List.all_eq_true.1 cl5_26 t h
 rcases qAi 28 2 h with h | h
 ·exact List.all_eq_true.1 cl5_28 t h
 rcases qAi 30 2 h with h | h
 ·exact List.all_eq_true.1 cl5_30 t h
 ·have h:t ∈ (bls 5).drop 32:=h
  rw [show (bls 5).drop 32=[] from by decide] at h
  cases h
theorem qDu (a0:List Bool) (a1:Int) (w0:∀ x ∈ a0,True) (l0:a0.length≤9223372036854775807):∃ k,g4 k a0 a1=some true:=by
 refine ⟨400,?_⟩
 rw [Fg4_eq]
 by_cases h1:a0.length < 1
 ·unfold Fg4
  exact (jS (v:=true) (λj=>iT (dT (by omega)) rfl)).trans rfl
 by_cases h6:6 < a0.length
 ·unfold Fg4
  exact (jS (v:=true) (λj=>iF (dF (by omega)) (by rw [dT (by omega)]))).trans rfl
 obtain ⟨j,hj,q1,q2⟩:=tmod_at a1 4 (by decide) (by decide)
 have e:Fg4 a0 a1=Fg4 a0 (j:Int):=by
  have q1:(fW .u64 a1).tmod 4=(j:Int):=q1
  have q2:(fW .u64 (j:Int)).tmod 4=(j:Int):=q2
  unfold Fg4 qFj qCk qE2 qEj qFh qCj
  simp only [q1,q2]
 rw [e]
 cases a0 with
 | nil=>exact absurd (Nat.zero_lt_one) h1
 | cons b t =>
  rw [cl_first]
  have hm:=qQl t
  simp only [List.length_cons] at h6
  have hc:clC t=true:=by
   rcases (by omega:t.length=0∨t.length=1∨t.length=2∨t.length=3∨t.length=4∨t.length=5) with h | h | h | h | h | h <;> rw [h] at hm
   ·exact clN0 t hm
   ·exact clN1 t hm
   ·exact clN2 t hm
   ·exact clN3 t hm
   ·exact clN4 t hm
   ·exact clN5 t hm
  exact all1 (f:=λj=>Fg4 (false::t) (j:Int)) hc j hj
end
end Go.Proofs.Ytjmmjhojbodbdaa.Am
set_option linter.unusedVariables false
namespace Go.Proofs.Ytjmmjhojbodbdaa.Am
open Go Go.ChangeShapes Go.WideShapes
def mpOf (fz:List (Nat×List AV)):Mp:=⟨λ_ _=>none,λi=>fz[i]?,λ_=>none⟩
theorem qJ {P : Program} {n : Nat} {xs : List AV} {args : Array Value} (h : PureOk P n xs (.bool true)) (w : World) (fz : List (Nat × List AV)) (hargs : VRs (mpOf fz) xs args.toList)
 (hfz:∀ p ∈ fz,∃ cs ty fr,w.heap[p.1]? = some (.cells cs ty fr)∧p.2.length≤cs.size∧VRs (mpOf fz) p.2 (cs.toList.take p.2.length)) :
 Calls P n args w λe W'=>e = .returned (.bool true)∧RowKit.Below w.heap.size w W':=by
 refine Calls.mono (h.1 (mpOf fz) w args (λ_ _=>rfl) hargs ?_) ?_
 ·refine ⟨?_,?_,?_,λ_ _=>rfl,?_,?_,?_,⟨fz.length,λi hi=>List.getElem?_eq_none hi⟩,Nat.le_refl _,by show 0≤roots; unfold roots; omega,λC t h=>by cases h⟩
  ·intro r b v B N j hm; cases hm
  ·intro r v B N hm; cases hm
  ·intro r v B N r' v' N' hm; cases hm
  ·intro r v B N hm; cases hm
  ·intro i B cells hi
   exact hfz (B,cells) (List.mem_of_getElem? hi)
  ·intro i B cells r v N b _ hm; cases hm
 ·rintro e w' ⟨m',c,rfl,k,g,a⟩
  simp only [VR] at a
  exact ⟨by rw [a],g.below (Nat.le_refl _)⟩
theorem qQo {m : Mp} : ∀ {xs : List AV} {cs : List Value}, xs.length = cs.length → (∀ (i : Nat) x c, xs[i]? = some x → cs[i]? = some c → VR m x c) → VRs m xs cs
 | [],[],_,_=>by simp only [VRs]
 | [],_::_,h,_=>by cases h
 | _::_,[],h,_=>by cases h
 | x::xs,c::cs,h,k=>by
  simp only [VRs]
  exact ⟨c,cs,rfl,k 0 x c rfl rfl,qQo (by simpa using h) (λi x' c' a hc=>k (i+1) x' c' (by simpa using a) (by simpa using hc))⟩
theorem qHc {w:World} {x:Addr} {i:Nat} {v:Value} (h:w.cell? (x.add i)=some v):∃ cs ty fr,w.heap[x.block]? = some (.cells cs ty fr)∧cs[x.off+i]? = some v∧(i=0→x.spot=none):=by
 have a:(x.add i).block=x.block:=by unfold Addr.add; split <;> rfl
 have ho:(x.add i).off=x.off+i:=by unfold Addr.add; split <;> simp_all
 have hs:i=0→(x.add i).spot=x.spot:=by intro e; subst e; rfl
 unfold World.cell? at h
 rw [a,ho] at h
 cases hw:w.heap[x.block]? with
 | none=>rw [hw] at h; cases h
 | some o =>
  rw [hw] at h
  cases o with
  | cells cs ty fr =>
   simp only [] at h
   cases hsp:(x.add i).spot with
   | none=>rw [hsp] at h; exact ⟨cs,ty,fr,rfl,by simpa using h,λe=>by rw [← hs e,hsp]⟩
   | some q=>rw [hsp] at h; simp at h
  | _=>simp at h
section
variable {H:Type} {enc:TypeId×Value→H} {P:Program} {w:World} {base:Nat} {held:Bool}
end
end Go.Proofs.Ytjmmjhojbodbdaa.Am
set_option linter.unusedVariables false
namespace Go.Proofs.Ytjmmjhojbodbdaa.Am
open Go Go.ChangeShapes Go.WideShapes
def IsRowG (n:Nat) (w:World) (a:Option Addr) (len cap:Nat) (av:List AV):Prop :=
 (a=none∧len=0∧cap=0∧av=[]) ∨
 ∃ x,a=some x∧len≤cap∧av.length=len * n∧∀ i v,av[i]? = some v→∃ c,w.cell? (x.add i)=some c∧∀ m,VR m v c
def frozOfG (a:Option Addr) (av:List AV):Nat×List AV:=match a with
 | none=>(0,[])
 | some x=>(x.block,List.replicate x.off .top++av)
theorem qNg {n : Nat} {w : World} {a : Option Addr} {len cap : Nat} {av : List AV} (h : IsRowG n w a len cap av) (hne : av ≠ []) (fz : List (Nat × List AV)) :
 ∃ cs ty fr,w.heap[(frozOfG a av).1]? = some (.cells cs ty fr)∧(frozOfG a av).2.length≤cs.size∧VRs (mpOf fz) (frozOfG a av).2 (cs.toList.take (frozOfG a av).2.length):=by
 rcases h with ⟨_,_,_,rfl⟩ | ⟨x,rfl,hl,hz,hc⟩
 ·exact absurd rfl hne
 ·have hpos:0 < av.length:=List.length_pos_iff.2 hne
  obtain ⟨o,k,-⟩:=hc (av.length - 1) _ (List.getElem?_eq_getElem (by omega))
  obtain ⟨cs,ty,fr,b,g,-⟩:=qHc k
  have hsz:x.off+(av.length - 1) < cs.size:=by
   rcases Nat.lt_or_ge (x.off+(av.length - 1)) cs.size with h | h
   ·exact h
   ·rw [Array.getElem?_eq_none h] at g; cases g
  refine ⟨cs,ty,fr,b,by simp only [frozOfG,List.length_append,List.length_replicate]; omega,?_⟩
  refine qQo (by simp only [frozOfG,List.length_append,List.length_replicate,List.length_take,Array.length_toList]; omega) ?_
  intro i v c hv hcv
  simp only [frozOfG] at hv hcv
  by_cases hi:i < x.off
  ·rw [List.getElem?_append_left (by simpa using hi)] at hv
   rw [List.getElem?_replicate,if_pos hi] at hv
   cases hv
   simp only [VR]
  ·rw [List.getElem?_append_right (by simpa using Nat.le_of_not_lt hi),List.length_replicate] at hv
   have hlt:i - x.off < av.length:=(List.getElem?_eq_some_iff.1 hv).1
   obtain ⟨c',l,m⟩:=hc (i - x.off) v hv
   obtain ⟨cs',ty',fr',hb',j,-⟩:=qHc l
   rw [b] at hb'
   cases hb'
   rw [show x.off+(i - x.off)=i from by omega] at j
   rw [List.getElem?_take_of_lt (by simp only [List.length_append,List.length_replicate]; omega),Array.getElem?_toList,j] at hcv
   cases hcv
   exact m _
theorem qKf {n:Nat} {w:World} {a:Option Addr} {len cap:Nat} {av:List AV} (h:IsRowG n w a len cap av):av.length=len * n:=by
 rcases h with ⟨_,rfl,_,rfl⟩ | ⟨x,_,_,hz,_⟩
 ·simp
 ·exact hz
theorem rowG_VR {n:Nat} {w:World} {a:Option Addr} {len cap:Nat} {av:List AV} (h:IsRowG n w a len cap av) (g:0 < n) (fz:List (Nat×List AV)) (id:Nat) (hid:av ≠ []→fz[id]? = some (frozOfG a av)):VR (mpOf fz) (.vec len n av) (.slice a len cap):=by
 simp only [VR]
 refine ⟨qKf h,a,cap,rfl,?_,?_,?_⟩
 ·rcases h with ⟨_,rfl,rfl,rfl⟩ | ⟨x,_,hl,hz,_⟩
  ·exact Nat.le_refl _
  ·exact hl
 ·intro ha
  rcases h with ⟨_,rfl,rfl,rfl⟩ | ⟨x,j,_,_,_⟩
  ·exact ⟨rfl,rfl⟩
  ·rw [j] at ha; cases ha
 ·intro hpos
  have b:0 < av.length:=by rw [qKf h]; exact Nat.mul_pos hpos g
  have hne:av ≠ []:=List.length_pos_iff.1 b
  have hf:=hid hne
  rcases h with ⟨_,_,_,rfl⟩ | ⟨x,rfl,hl,hz,hc⟩
  ·exact absurd rfl hne
  ·obtain ⟨c,k,-⟩:=hc 0 _ (List.getElem?_eq_getElem b)
   obtain ⟨cs,ty,fr,l,m,hsp⟩:=qHc k
   have hspot:=hsp rfl
   refine ⟨id,x.block,x.off,_,hf,?_,?_,?_⟩
   ·cases x; simp only at hspot; rw [hspot]
   ·rw [List.drop_append_of_le_length (by simp),List.drop_of_length_le (by simp),List.nil_append]
    exact List.take_of_length_le (by omega)
   ·simp; omega
def fzOfG (a:Option Addr) (av:List AV):List (Nat×List AV):=if av=[] then [] else [frozOfG a av]
theorem qQ8 {a:Option Addr} {av:List AV} {p:Nat×List AV} (h:p ∈ fzOfG a av):av ≠ []∧p=frozOfG a av:=by
 unfold fzOfG at h
 split at h
 ·cases h
 ·exact ⟨by assumption,List.mem_singleton.1 h⟩
theorem qQ9 {a:Option Addr} {av:List AV} (A B:List (Nat×List AV)) (h:av ≠ []):(A++(fzOfG a av++B))[A.length]? = some (frozOfG a av):=by
 unfold fzOfG
 rw [if_neg h]
 simp
theorem add_add' (x:Addr) (i j:Nat):(x.add i).add j=x.add (i+j):=by
 unfold Addr.add
 by_cases hi:i=0
 ·subst hi; simp
 ·by_cases hj:j=0
  ·subst hj; simp
  ·simp [hi,hj,Nat.add_assoc]
theorem qK7 {m : Mp} : ∀ {xs : List AV} {cs : List Value}, VRs m xs cs → xs.length = cs.length ∧ ∀ (i : Nat) x, xs[i]? = some x → ∃ c, cs[i]? = some c ∧ VR m x c
 | [],cs,h=>by
  simp only [VRs] at h; subst h
  exact ⟨rfl,λi x a=>by simp at a⟩
 | x::xs,cs,h=>by
  simp only [VRs] at h
  obtain ⟨y,ys,rfl,b,g⟩:=h
  obtain ⟨j,k⟩:=qK7 g
  refine ⟨by simp [j],λi z hz=>?_⟩
  cases i with
  | zero=>simp at hz; subst hz; exact ⟨y,rfl,b⟩
  | succ i=>simpa using k i z (by simpa using hz)
section
variable {H:Type} {enc:TypeId×Value→H} {P:Program} {w:World} {base:Nat} {held:Bool}
theorem rowG_open {α : Type} {Q : α → Prop} {en : α → List AV} {n : Nat} {t e : TypeId} {a : Option Addr} {len cap : Nat} {d : DataW H} {ps : List MemPlace} (ht : P.underlying t = some (.slice e)) (hc : P.cellsOf e = n) (hlen : ∀ x, (en x).length = n)
 (hel:∀ fuel cs y,DataW.trod enc P w base (λ_=>true) held fuel e cs=some y→∃ x,Q x∧∀ m,VRs m (en x) cs)
 (h:DataW.Trod enc P w base (λ_=>true) held t (.slice a len cap) d ps):∃ L:List α,IsRowG n w a len cap (L.flatMap en)∧L.length=len∧(∀ x ∈ L,Q x)∧len≤maxLen:=by
 obtain ⟨fuel,hf⟩:=h
 rcases DataW.trod_slice ht hf with ⟨hcs,_⟩ | ⟨x,l,c,elems,rest,q,_,hcs,_,E,hl,hm,hlq,hel',_,_⟩
 ·simp [Value.cells] at hcs
  obtain ⟨rfl,rfl,rfl⟩:=hcs
  exact ⟨[],.inl ⟨rfl,rfl,rfl,rfl⟩,rfl,(λx C=>by cases C),Nat.zero_le _⟩
 ·simp [Value.cells] at hcs
  obtain ⟨rfl,rfl,rfl⟩:=hcs
  have each:∀ i,i < len→∃ y,Q y∧∃ cs,w.cells? base (x.add (i * n)) n=some cs∧∀ m,VRs m (en y) cs:=by
   intro i hi
   have b:=hel' i hi
   rw [List.getElem?_eq_getElem (by omega),hc,Option.bind_eq_some_iff] at b
   obtain ⟨cs,g,j⟩:=b
   obtain ⟨y,o,r⟩:=hel _ _ _ j
   exact ⟨y,o,cs,g,r⟩
  have build:∀ k,k≤len→∃ L:List α,L.length=k∧(∀ y ∈ L,Q y)∧∀ i v,(L.flatMap en)[i]? = some v→∃ c,w.cell? (x.add i)=some c∧∀ m,VR m v c:=by
   intro k
   induction k with
   | zero=>intro _; exact ⟨[],rfl,(λy hy=>by cases hy),(λi v hv=>by simp at hv)⟩
   | succ k ih =>
    intro hk
    obtain ⟨L,b,g,j⟩:=ih (by omega)
    obtain ⟨y,o,cs,r,u⟩:=each k (by omega)
    refine ⟨L++[y],by simp [b],?_,?_⟩
    ·intro z hz
     rcases List.mem_append.1 hz with hz | hz
     ·exact g z hz
     ·rw [List.mem_singleton.1 hz]; exact o
    ·intro i v hv
     have fl:(L.flatMap en).length=k * n:=by rw [qB hlen,b]
     rw [List.flatMap_append] at hv
     by_cases hi:i < k * n
     ·rw [List.getElem?_append_left (by omega)] at hv
      exact j i v hv
     ·rw [List.getElem?_append_right (by omega),fl] at hv
      simp only [List.flatMap_cons,List.flatMap_nil,List.append_nil] at hv
      obtain ⟨F,D⟩:=qK7 (u ⟨λ_ _=>none,λ_=>none,λ_=>none⟩)
      obtain ⟨c,A,-⟩:=D _ _ hv
      refine ⟨c,?_,λm=>?_⟩
      ·have g4:=World.cells?_some r
       have hlt:i - k * n < n:=by
        have:=(List.getElem?_eq_some_iff.1 hv).1
        rw [hlen] at this; exact this
       have B:=g4.2.2 (i - k * n) hlt
       rw [A] at B
       rw [← B]
       rw [add_add',show k * n+(i - k * n)=i by omega]
      ·obtain ⟨c',g6,g7⟩:=(qK7 (u m)).2 _ _ hv
       rw [A] at g6
       cases g6
       exact g7
  obtain ⟨L,b,g,j⟩:=build len (Nat.le_refl _)
  exact ⟨L,.inr ⟨_,rfl,hl,by rw [qB hlen,b],j⟩,b,g,by omega⟩
end
theorem qQn (m:Mp):VRs m [] []:=by simp only [VRs]
theorem qHf {m:Mp} {x:AV} {y:Value} {xs:List AV} {ys:List Value} (h:VR m x y) (k:VRs m xs ys):VRs m (x::xs) (y::ys):=by simp only [VRs]; exact ⟨y,ys,rfl,h,k⟩
theorem VR_int (m:Mp) (k:IntKind) (n:Int):VR m (.int k n) (.int k n):=by simp only [VR]
theorem VR_bool (m:Mp) (b:Bool):VR m (.bool b) (.bool b):=by simp only [VR]
end Go.Proofs.Ytjmmjhojbodbdaa.Am
set_option linter.unusedVariables false
set_option linter.unusedSimpArgs false
namespace Go.Proofs.Ytjmmjhojbodbdaa.Am
open Go Go.ChangeShapes Go.WideShapes
theorem opn4 {H:Type} {enc:TypeId×Value→H} {w:World} {base:Nat} {sp:Nat→Bool} {held:Bool} {fuel:Nat} {cs:List Value} {y:DataW H×List MemPlace} (h:DataW.trod enc Try.prog w base sp held fuel 4 cs=some y):∃ x:Bool,(True)∧∀ m,VRs m (e4 x) cs:=by
 obtain ⟨n0,rfl,-⟩:=DataW.trod_bool Try.underlying4 h
 exact ⟨n0,trivial,λm=>qHf (VR_bool m n0) (qQn m)⟩
theorem shapeClauses_walk (c:Option Addr) (len0 cap0:Nat) (a:List Bool) (b:Int) (W:World) (g:IsRowG 1 W c len0 cap0 (a.flatMap e4)) (j:a.length=len0) (l:∀ x ∈ a,True) (m:len0≤maxLen) (n:(Lit.int .i64 b).wf=true):Calls Try.prog 4 #[.slice c len0 cap0,.int .i64 b] W λe W'=>e = .returned (.bool true)∧RowKit.Below W.heap.size W W':=by
 obtain ⟨k,h⟩:=qDu a b l (by rw [j]; simpa [maxLen] using m)
 refine qJ (g4_ok k a b true h) W (fzOfG c (a.flatMap e4)++[]) ?_ ?_
 ·exact qHf ((by cases j; exact rowG_VR g (by decide) _ (([]:List (Nat×List AV))).length (λh=>qQ9 (([]:List (Nat×List AV))) _ h))) (qHf (VR_int _ .i64 b) (qQn _))
 intro p hp
 rcases List.mem_append.1 hp with hp | hp
 ·obtain ⟨hne,rfl⟩:=qQ8 hp
  exact qNg g hne _
 cases hp
end Go.Proofs.Ytjmmjhojbodbdaa.Am
namespace Go.Proofs.Ytjmmjhojbodbdaa.shapeClauses
open Go.ChangeShapes Go.WideShapes Go.ChangeAt Go.RowKit
open Go.ChangeMaps (open_string shut_string)
set_option linter.unusedVariables false
theorem laidOut:laidOutB Try.prog=true:=by kernel_rfl
theorem own:ownKnob Try.prog.godebug=none:=by kernel_rfl
set_option maxRecDepth 100000 in
theorem lifted (os : Os) (started : os.Started) (H : Type) (enc : TypeId × Value → H) :
 ReturnsInHanded {} Try.checked os 4 .any (Rows.shapeClausesSpec.pre6 enc Try.prog Try.f4 Rows.shapeClausesRow.domain false) (Rows.shapeClausesSpec.post enc Try.prog Try.f4 false true false false):=by
 refine returnsInHanded_of_change_sized (C := Try.checked) own started (by kernel_rfl) Try.func4
  (ChangeSpec.witness6 (enc:=enc) (C:=Try.checked) false ⟨#[],#[.slice none 0 0,.int .i64 0],[]⟩ 8 (by kernel_rfl) (by kernel_rfl) (by kernel_rfl) (by kernel_rfl)) ?_
 intro W base args ds gs before hval0 hW hcnd hsz0 _
 have hsz:(DataW.weightsEach Try.prog (Try.f4.params.toList++Rows.shapeClausesSpec.plain.varTypes Try.prog) (ds++gs)).all (· ≤ reachBytes)=true:=hsz0
 have hval:∀ (j:Nat) t v,Try.f4.params[j]? = some t→args[j]? = some v→Value.okWide Try.prog W .any base t v:=hval0
 have hW':=hW
 obtain ⟨p,q,hA0,hV,rfl,hfz,hnd⟩:=hW
 have hA:DataW.TrodAll enc Try.prog W 0 (fun _=>true) true Try.f4.params.toList args.toList ds p:=hA0
 rw [Try.params4] at hA hval hsz
 obtain ⟨v0,vs0,d0,ds0,p0,q0,hargs,rfl,rfl,h0,r0⟩:=trodAll_cons hA
 obtain ⟨v1,vs1,d1,ds1,p1,q1,rfl,rfl,rfl,h1,r1⟩:=trodAll_cons r0
 obtain ⟨rfl,rfl,rfl⟩:=trodAll_nil r1
 obtain rfl:args = #[v0,v1]:=by cases args; simp_all
 obtain ⟨rfl,rfl⟩:=trodVars_none hV
 obtain ⟨v0a,len0,cap0,rfl⟩:=okWide_slice Try.underlying34 (hval 0 34 v0 rfl rfl)
 have k0:=h0
 have lt0:∀ x ∈ p0,x.block < W.heap.size:=by obtain ⟨m,hm⟩:=k0; exact DataW.trod_lt m _ _ _ hm
 obtain ⟨z0,w0,l0,z0q,y0⟩:=Am.rowG_open (en:=Am.e4) (n:=1) Try.underlying34 (by kernel_rfl) Am.e4_len (fun _ _ _ h=>Am.opn4 h) h0
 obtain ⟨a1,rfl,rfl,rfl,w1⟩:=open_int Try.underlying3 (hval 1 3 v1 rfl rfl) h1
 clear hA0 hval0 hsz0 hsz
 refine (Am.shapeClauses_walk v0a len0 cap0 z0 a1 W w0 l0 z0q y0 w1).mono fun e W' ⟨he,bel⟩=>?_
 subst he
 exact ⟨_,rfl,_,_,_,[],_,[],hW',trodAll_mk1 (shut_bool Try.underlying4 _),(trodAll_cons_mk (Below.trod laidOut (by kernel_rfl) (of_decide_eq_true (by kernel_rfl)) k0 bel lt0) (trodAll_cons_mk (shut_int Try.underlying3 w1) trodAll_mk0)),rfl,bel.frame _,fun h=>by cases h⟩
theorem over:Rows.shapeClausesRow.holds Try.pinned (OpenSpec.ofChange Rows.shapeClausesSpec) :=
 OpenClaim.holds_of_wide 4 Try.f4 rfl rfl rfl rfl rfl rfl rfl ⟨rfl, rfl, rfl, rfl, rfl⟩ rfl rfl rfl rfl rfl (by kernel_rfl) Try.func4 (by kernel_rfl)
  (of_decide_eq_true (by kernel_rfl)) (by unfold Func.isWrapper; first | (rw [if_pos (by decide +kernel)]; kernel_rfl) | (rw [if_neg (by decide +kernel)]; exact ⟨rfl,rfl⟩))
  (fun os started H enc _=>lifted os started H enc)
theorem proved:Rows.ShapeClausesSaid:=over
#print axioms proved
end Go.Proofs.Ytjmmjhojbodbdaa.shapeClauses
namespace Go.Proofs.Ytjmmjhojbodbdaa
theorem shapeClauses_holds:Rows.ShapeClausesSaid:=shapeClauses.proved
end Go.Proofs.Ytjmmjhojbodbdaa
